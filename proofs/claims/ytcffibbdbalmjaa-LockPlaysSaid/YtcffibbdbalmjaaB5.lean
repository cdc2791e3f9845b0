/-
  Parts of a walk: what functions of the program compute, each told by a theorem (QERf3, QERf4, QERf5, QERf6, QLockS, QLockP, QLockPP).
-/
import Derived.Test.YtcffibbdbalmjaaB4
set_option linter.unusedVariables false
set_option linter.unusedSimpArgs false
namespace Go.Q
open Go.Proofs
set_option linter.unusedVariables false
set_option maxRecDepth 100000
attribute [local irreducible] wpList OK Code.wp
set_option maxHeartbeats 4000000 in
theorem rask_c {E w : World} {R : List Hp} {v_H : Value} {s_H : List Hp} {H : List Plc} {v_L : Value} {s_L : List Hp} {L : List Plc} {owner : Int} {key : Bs} {write : Bool}  (hH : Has E w [s_H, s_L, R]) (h_H : Own 183 3 v_H H.length (H.flatMap rcC) s_H) (h_L : Own 183 3 v_L L.length (L.flatMap rcC) s_L) (hn : H.length ≤ 100000 ∧ L.length ≤ 100000) :
    Calls Try.prog 98 #[(.agg #[v_H, v_L]), (.int .i64 owner), (S key), (.bool write)] w fun e w' => ∃ (v1' : Value) (s2' : List Hp) (v4' : Value) (s5' : List Hp), e = .returned (.tuple #[(.agg #[v1', v4']), (.int .i64 ((askR H L owner key write).2))]) ∧ (Own 183 3 v1' ((askR H L owner key write).1.1).length (((askR H L owner key write).1.1).flatMap rcC) s2') ∧ (Own 183 3 v4' ((askR H L owner key write).1.2).length (((askR H L owner key write).1.2).flatMap rcC) s5') ∧ Has E w' [s2', s5', R] := by
  obtain ⟨hn1_, hn2_⟩ := hn
  have hfl_ := findC_lt H owner key
  refine c_enter (args := [(.agg #[v_H, v_L]), (.int .i64 owner), (S key), (.bool write)]) Try.func98 rfl Try.ntmps98 (by simp) ?_
  refine wp_seq_k fun K1 hK1 => ?_
  refine c_region ?_
  refine s_op (o_box (cs := #[v_H, v_L]) rfl rfl hH fun b2 w3 hH4 => ?_)
  refine s_op (o_alloc (cs := #[(.slice none 0 0), (.slice none 0 0)]) ti86 rfl hH4 fun b5 w6 hH7 => ?_)
  refine s_op (o_assign (v := (.int .i64 0)) rfl ?_)
  refine s_nil ?_
  refine t_norm (hK1 _ _ ?_)
  refine wp_seq_k fun K8 hK8 => ?_
  refine wp_seq_k fun K9 hK9 => ?_
  refine c_region ?_
  refine s_op (o_move (v := (.int .i64 owner)) rfl ?_)
  refine s_op (o_lss (a := owner) (b := 0) rfl rfl ?_)
  refine s_nil ?_
  refine t_norm (hK9 _ _ ?_)
  refine c_cond rfl (fun h10 => ?_) (fun h10 => ?_)
  · -- owner < 0
    refine wp_seq_k fun K11 hK11 => ?_
    refine c_region ?_
    refine s_op (o_loadN (cs := [v_H, v_L]) Try.underlying86 rfl ti86 rfl hH7 (seg_sub 1 rfl) (CellsAt.one rfl) ?_)
    refine s_eff (o_storeN (vs := [v_H, v_L]) (c' := #[v_H, v_L]) ti86 rfl rfl rfl rfl (by intro u hu; simp only [List.mem_cons, List.not_mem_nil, or_false] at hu; rcases hu with rfl | rfl <;> first | rfl | exact h_H.one | exact h_L.one) (by simp) (by kernel_rfl) (hH7.front 0 rfl) fun w12 hH13 => ?_)
    refine s_op (o_assign (v := (.int .i64 1)) rfl ?_)
    refine s_nil ?_
    refine t_norm (hK11 _ _ ?_)
    refine wp_ret ?_
    refine t_ret (c_retC2 Try.results98 rfl (run_loadVarN (cs := [v_H, v_L]) Try.underlying86 rfl ti86 hH13 (seg_sub 0 rfl) (CellsAt.one rfl)) (x := (.int .i64 1)) rfl ?_)
    have hq_ : (askR H L owner key write) = ((H, L), 1) := askR_neg h10
    have q14 : (askR H L owner key write).1.1 = H := by rw [hq_]
    have q15 : (askR H L owner key write).1.2 = L := by rw [hq_]
    have q16 : (askR H L owner key write).2 = 1 := by rw [hq_]
    have hH17 : Has E w12 [s_H, s_L, R] := (((hH13.front 4 rfl).front 4 rfl).front 4 rfl).first 3 rfl
    exact ⟨_, _, _, _, by rw [q16], (by rw [q14]; exact h_H), (by rw [q15]; exact h_L), hH17⟩
  · -- not: owner < 0
    refine wp_skip ?_
    refine t_norm (hK8 _ _ ?_)
    refine wp_seq_k fun K18 hK18 => ?_
    refine wp_seq_k fun K19 hK19 => ?_
    refine c_region ?_
    refine s_op (o_loadN (cs := [v_H, v_L]) Try.underlying86 rfl ti86 rfl hH7 (seg_sub 1 rfl) (CellsAt.one rfl) ?_)
    refine s_op (o_move (v := (.int .i64 owner)) rfl ?_)
    refine s_op (o_callf (vs := #[(.agg #[v_H, v_L]), (.int .i64 owner)]) ca101 rfl (args2 rfl rfl) (rwaits_c (H := H) (L := L) (owner := owner) hH7.all (h_H.sl.mono (seg_sub 2 rfl)) (h_L.sl.mono (seg_sub 3 rfl))) ?_)
    rintro _ w22 ⟨rfl, hX20⟩
    refine ⟨_, rfl, ?_⟩
    have hH21 := hX20.of_all
    have := idxG_lt (ownIs owner) L
    refine s_op (o_geq (a := (idxG (ownIs owner) L)) (b := 0) rfl rfl ?_)
    refine s_nil ?_
    refine t_norm (hK19 _ _ ?_)
    refine c_cond rfl (fun h23 => ?_) (fun h23 => ?_)
    · -- 0 ≤ (idxG (ownIs owner) L)
      refine wp_seq_k fun K24 hK24 => ?_
      refine c_region ?_
      refine s_op (o_loadN (cs := [v_H, v_L]) Try.underlying86 rfl ti86 rfl hH21 (seg_sub 1 rfl) (CellsAt.one rfl) ?_)
      refine s_eff (o_storeN (vs := [v_H, v_L]) (c' := #[v_H, v_L]) ti86 rfl rfl rfl rfl (by intro u hu; simp only [List.mem_cons, List.not_mem_nil, or_false] at hu; rcases hu with rfl | rfl <;> first | rfl | exact h_H.one | exact h_L.one) (by simp) (by kernel_rfl) (hH21.front 0 rfl) fun w25 hH26 => ?_)
      refine s_op (o_assign (v := (.int .i64 12)) rfl ?_)
      refine s_nil ?_
      refine t_norm (hK24 _ _ ?_)
      refine wp_ret ?_
      refine t_ret (c_retC2 Try.results98 rfl (run_loadVarN (cs := [v_H, v_L]) Try.underlying86 rfl ti86 hH26 (seg_sub 0 rfl) (CellsAt.one rfl)) (x := (.int .i64 12)) rfl ?_)
      have hq_ : (askR H L owner key write) = ((H, L), 12) := askR_wait h10 h23
      have q27 : (askR H L owner key write).1.1 = H := by rw [hq_]
      have q28 : (askR H L owner key write).1.2 = L := by rw [hq_]
      have q29 : (askR H L owner key write).2 = 12 := by rw [hq_]
      have hH30 : Has E w25 [s_H, s_L, R] := (((hH26.front 4 rfl).front 4 rfl).front 4 rfl).first 3 rfl
      exact ⟨_, _, _, _, by rw [q29], (by rw [q27]; exact h_H), (by rw [q28]; exact h_L), hH30⟩
    · -- not: 0 ≤ (idxG (ownIs owner) L)
      refine wp_skip ?_
      refine t_norm (hK18 _ _ ?_)
      refine wp_seq_k fun K31 hK31 => ?_
      refine c_region ?_
      refine s_op (o_move (v := (.int .i64 owner)) rfl ?_)
      refine s_op (o_move (v := (S key)) rfl ?_)
      refine s_op (o_move (v := (.bool write)) rfl ?_)
      refine s_op (o_sight (v := (.agg #[(.int .i64 owner), (S key), (.bool write)])) (fun _ => by kernel_rfl) ?_)
      refine s_op (o_alloc (cs := #[(.int .i64 0), (S ([] : List UInt8)), (.bool false)]) ti183 rfl hH21 fun b32 w33 hH34 => ?_)
      refine s_eff (o_storeN (vs := [(.int .i64 owner), (S key), (.bool write)]) (c' := #[(.int .i64 owner), (S key), (.bool write)]) ti183 rfl rfl rfl rfl (by intro u hu; simp only [List.mem_cons, List.not_mem_nil, or_false] at hu; rcases hu with rfl | rfl | rfl <;> first | rfl) (by simp) (by kernel_rfl) (hH34.front 0 rfl) fun w35 hH36 => ?_)
      refine s_nil ?_
      refine t_norm (hK31 _ _ ?_)
      refine wp_seq_k fun K37 hK37 => ?_
      refine c_region ?_
      refine s_op (o_fieldAddr (k := 0) (fun _ => by kernel_rfl) rfl ?_)
      refine s_op (o_load1 (v := v_H) Try.underlying84 rfl rfl hH36 (seg_sub 2 rfl) (CellsAt.one rfl) ?_)
      refine s_op (o_move (v := (.int .i64 owner)) rfl ?_)
      refine s_op (o_move (v := (S key)) rfl ?_)
      refine s_op (o_callf (vs := #[v_H, (.int .i64 owner), (S key)]) ca136 rfl (args3 rfl rfl rfl) (rfind_c (l := H) (owner := owner) (key := key) hH36.all (h_H.sl.mono (seg_sub 3 rfl))) ?_)
      rintro _ w40 ⟨rfl, hX38⟩
      refine ⟨_, rfl, ?_⟩
      have hH39 := hX38.of_all
      have := findC_lt H owner key
      refine s_op (o_assign (v := (.int .i64 (findC H owner key))) rfl ?_)
      refine s_nil ?_
      refine t_norm (hK37 _ _ ?_)
      refine wp_seq_k fun K41 hK41 => ?_
      refine wp_seq_k fun K42 hK42 => ?_
      refine c_region ?_
      refine s_op (o_move (v := (.int .i64 (findC H owner key))) rfl ?_)
      refine s_op (o_geq (a := (findC H owner key)) (b := 0) rfl rfl ?_)
      refine s_op (o_move (v := (.bool (decide (0 ≤ (findC H owner key))))) rfl ?_)
      by_cases h43 : 0 ≤ (findC H owner key)
      · -- 0 ≤ (findC H owner key)
        refine s_on 35 rfl (congrArg Value.bool (decide_eq_true h43)) (o_fieldAddr (k := 0) (fun _ => by kernel_rfl) rfl ?_)
        refine s_on 35 rfl (congrArg Value.bool (decide_eq_true h43)) (o_load1 (v := v_H) Try.underlying84 rfl rfl hH39 (seg_sub 2 rfl) (CellsAt.one rfl) ?_)
        refine s_on 35 rfl (congrArg Value.bool (decide_eq_true h43)) (o_move (v := (.int .i64 (findC H owner key))) rfl ?_)
        obtain ⟨x47, hx48⟩ : ∃ x_, H[((findC H owner key)).toNat]? = some x_ := get_some (by omega)
        refine s_on 35 rfl (congrArg Value.bool (decide_eq_true h43)) (o_indexF rcC_len Try.underlying84 ti183 rfl h_H.sl rfl rfl (by omega) hx48 fun b44 o45 hc46 => ?_)
        refine s_on 35 rfl (congrArg Value.bool (decide_eq_true h43)) (o_fieldAddr (k := o45 + 2) (fun _ => by kernel_rfl) rfl ?_)
        refine s_on 35 rfl (congrArg Value.bool (decide_eq_true h43)) (o_load1 (v := (.bool x47.wr)) Try.underlying4 rfl rfl hH39 (seg_sub 3 rfl) (CellsAt.field (k := 2) (ds := [(.bool x47.wr)]) hc46 rfl) ?_)
        refine s_on 35 rfl (congrArg Value.bool (decide_eq_true h43)) (o_move (v := (.bool x47.wr)) rfl ?_)
        rcases Bool.eq_false_or_eq_true x47.wr with h49 | h49
        · -- x47.wr
          refine s_off (b' := true) 42 rfl (congrArg Value.bool h49) rfl ?_
          refine s_off (b' := true) 42 rfl (congrArg Value.bool h49) rfl ?_
          refine s_on 35 rfl (congrArg Value.bool (decide_eq_true h43)) (o_pick_t (u := (.bool true)) ((rfl : _ = _).trans (congrArg Value.bool h49)) rfl ?_)
          refine s_op (o_pick_t (u := (.bool true)) ((rfl : _ = _).trans (congrArg Value.bool (decide_eq_true h43))) rfl ?_)
          refine s_nil ?_
          refine t_norm (hK42 _ _ ?_)
          refine c_true rfl rfl ?_
          refine wp_seq_k fun K50 hK50 => ?_
          refine c_region ?_
          refine s_op (o_loadN (cs := [v_H, v_L]) Try.underlying86 rfl ti86 rfl hH39 (seg_sub 2 rfl) (CellsAt.one rfl) ?_)
          refine s_eff (o_storeN (vs := [v_H, v_L]) (c' := #[v_H, v_L]) ti86 rfl rfl rfl rfl (by intro u hu; simp only [List.mem_cons, List.not_mem_nil, or_false] at hu; rcases hu with rfl | rfl <;> first | rfl | exact h_H.one | exact h_L.one) (by simp) (by kernel_rfl) (hH39.front 1 rfl) fun w51 hH52 => ?_)
          refine s_op (o_assign (v := (.int .i64 0)) rfl ?_)
          refine s_nil ?_
          refine t_norm (hK50 _ _ ?_)
          refine wp_ret ?_
          refine t_ret (c_retC2 Try.results98 rfl (run_loadVarN (cs := [v_H, v_L]) Try.underlying86 rfl ti86 hH52 (seg_sub 0 rfl) (CellsAt.one rfl)) (x := (.int .i64 0)) rfl ?_)
          have hq_ : (askR H L owner key write) = ((H, L), 0) := askR_has h10 h23 ⟨h43, by simp [show H[(findC H owner key).toNat]? = some _ from hx48, h49]⟩
          have q53 : (askR H L owner key write).1.1 = H := by rw [hq_]
          have q54 : (askR H L owner key write).1.2 = L := by rw [hq_]
          have q55 : (askR H L owner key write).2 = 0 := by rw [hq_]
          have hH56 : Has E w51 [s_H, s_L, R] := (((hH52.front 5 rfl).front 5 rfl).front 5 rfl).first 3 rfl
          exact ⟨_, _, _, _, by rw [q55], (by rw [q53]; exact h_H), (by rw [q54]; exact h_L), hH56⟩
        · -- not: x47.wr
          refine s_on 42 rfl (congrArg Value.bool h49) (o_move (v := (.bool write)) rfl ?_)
          refine s_on 42 rfl (congrArg Value.bool h49) (o_not rfl ?_)
          refine s_on 35 rfl (congrArg Value.bool (decide_eq_true h43)) (o_pick_f (u := (.bool (!write))) ((rfl : _ = _).trans (congrArg Value.bool h49)) rfl ?_)
          refine s_op (o_pick_t (u := (.bool (!write))) ((rfl : _ = _).trans (congrArg Value.bool (decide_eq_true h43))) rfl ?_)
          refine s_nil ?_
          refine t_norm (hK42 _ _ ?_)
          refine c_condb rfl (fun h57 => ?_) (fun h57 => ?_)
          · -- !write
            have h57_n : write = false := by simpa using h57
            refine wp_seq_k fun K58 hK58 => ?_
            refine c_region ?_
            refine s_op (o_loadN (cs := [v_H, v_L]) Try.underlying86 rfl ti86 rfl hH39 (seg_sub 2 rfl) (CellsAt.one rfl) ?_)
            refine s_eff (o_storeN (vs := [v_H, v_L]) (c' := #[v_H, v_L]) ti86 rfl rfl rfl rfl (by intro u hu; simp only [List.mem_cons, List.not_mem_nil, or_false] at hu; rcases hu with rfl | rfl <;> first | rfl | exact h_H.one | exact h_L.one) (by simp) (by kernel_rfl) (hH39.front 1 rfl) fun w59 hH60 => ?_)
            refine s_op (o_assign (v := (.int .i64 0)) rfl ?_)
            refine s_nil ?_
            refine t_norm (hK58 _ _ ?_)
            refine wp_ret ?_
            refine t_ret (c_retC2 Try.results98 rfl (run_loadVarN (cs := [v_H, v_L]) Try.underlying86 rfl ti86 hH60 (seg_sub 0 rfl) (CellsAt.one rfl)) (x := (.int .i64 0)) rfl ?_)
            have hq_ : (askR H L owner key write) = ((H, L), 0) := askR_has h10 h23 ⟨h43, by simp [show H[(findC H owner key).toNat]? = some _ from hx48, h57_n, h49]⟩
            have q61 : (askR H L owner key write).1.1 = H := by rw [hq_]
            have q62 : (askR H L owner key write).1.2 = L := by rw [hq_]
            have q63 : (askR H L owner key write).2 = 0 := by rw [hq_]
            have hH64 : Has E w59 [s_H, s_L, R] := (((hH60.front 5 rfl).front 5 rfl).front 5 rfl).first 3 rfl
            exact ⟨_, _, _, _, by rw [q63], (by rw [q61]; exact h_H), (by rw [q62]; exact h_L), hH64⟩
          · -- not: !write
            have h57_n : write = true := by simpa using h57
            refine wp_skip ?_
            refine t_norm (hK41 _ _ ?_)
            refine wp_seq_k fun K65 hK65 => ?_
            refine c_region ?_
            refine s_op (o_assign (v := (.int .i64 0)) rfl ?_)
            refine s_nil ?_
            refine t_norm (hK65 _ _ ?_)
            refine wp_seq_k fun K66 hK66 => ?_
            refine wp_seq_k fun K67 hK67 => ?_
            refine c_region ?_
            refine s_op (o_assign (v := (.int .i64 0)) rfl ?_)
            refine s_nil ?_
            refine t_norm (hK67 _ _ ?_)
            refine wp_block ?_
            let I69 : Nat → (Nat → Value) → World → Prop := fun n__ r__ w__ => ∃ (k : Nat) (ln : Int), n__ = L.length - k ∧ Has E w__ [[Hp.one b32 (.cells #[(.int .i64 owner), (S key), (.bool write)] 183 (0, 0))], [Hp.one b5 (.cells #[(.slice none 0 0), (.slice none 0 0)] 86 (0, 0))], [Hp.one b2 (.cells #[v_H, v_L] 86 (0, 0))], s_H, s_L, R] ∧ (k ≤ L.length) ∧ (ln = (((L.take k).filter (keyIs key)).length : Int)) ∧ (0 ≤ ln ∧ ln ≤ k) ∧ r__ 0 = (.agg #[v_H, v_L]) ∧ r__ 1 = (.int .i64 owner) ∧ r__ 2 = (S key) ∧ r__ 3 = (.bool write) ∧ r__ 4 = (.pointer (some ⟨b2, 0, none⟩)) ∧ r__ 8 = (.pointer (some ⟨b5, 0, none⟩)) ∧ r__ 9 = (.int .i64 0) ∧ r__ 10 = (.pointer (some ⟨b32, 0, none⟩)) ∧ r__ 11 = (.int .i64 (findC H owner key)) ∧ r__ 12 = (.int .i64 ln) ∧ r__ 13 = (.int .i64 (k : Int)) ∧ r__ 17 = (.bool (decide (owner < 0))) ∧ r__ 22 = (.bool (decide (0 ≤ (idxG (ownIs owner) L)))) ∧ r__ 46 = (.bool (!write))
            refine c_loop I69 _ ⟨0, 0, rfl, hH39, Nat.zero_le _, rfl, ⟨by omega, by omega⟩, rfl, rfl, rfl, rfl, rfl, rfl, rfl, rfl, rfl, rfl, rfl, rfl, rfl, rfl⟩ ?_
            rintro n_ r72 w70 ⟨k, ln, rfl, hH71, hk, hln, hln2, e68_0, e68_1, e68_2, e68_3, e68_4, e68_8, e68_9, e68_10, e68_11, e68_12, e68_13, e68_17, e68_22, e68_46⟩
            obtain ⟨hln1_, hln2_⟩ := hln2
            refine wp_seq_k fun K73 hK73 => ?_
            refine wp_seq_k fun K74 hK74 => ?_
            refine c_region ?_
            refine s_op (o_move (v := (.int .i64 (k : Int))) e68_13 ?_)
            refine s_op (o_fieldAddr (k := 1) (fun _ => by kernel_rfl) e68_4 ?_)
            refine s_op (o_load1 (v := v_L) Try.underlying84 rfl rfl hH71 (seg_sub 2 rfl) (CellsAt.one rfl) ?_)
            refine s_op (o_lenS Try.underlying84 rfl h_L.sl ?_)
            refine s_op (o_lss (a := (k : Int)) (b := ((L.length : Nat) : Int)) rfl rfl ?_)
            refine s_nil ?_
            refine t_norm (hK74 _ _ ?_)
            refine c_cond rfl (fun h75 => ?_) (fun h75 => ?_)
            · -- (k : Int) < ((L.length : Nat) : Int)
              refine wp_skip ?_
              refine t_norm (hK73 _ _ ?_)
              refine wp_seq_k fun K76 hK76 => ?_
              refine wp_block ?_
              refine wp_seq_k fun K77 hK77 => ?_
              refine c_region ?_
              refine s_op (o_fieldAddr (k := 1) (fun _ => by kernel_rfl) e68_4 ?_)
              refine s_op (o_load1 (v := v_L) Try.underlying84 rfl rfl hH71 (seg_sub 2 rfl) (CellsAt.one rfl) ?_)
              refine s_op (o_move (v := (.int .i64 (k : Int))) e68_13 ?_)
              obtain ⟨x81, hx82⟩ : ∃ x_, L[((k : Int)).toNat]? = some x_ := get_some (by omega)
              refine s_op (o_indexF rcC_len Try.underlying84 ti183 rfl h_L.sl rfl rfl (by omega) hx82 fun b78 o79 hc80 => ?_)
              refine s_op (o_fieldAddr (k := o79 + 1) (fun _ => by kernel_rfl) rfl ?_)
              refine s_op (o_load1 (v := (S x81.key)) Try.underlying9 rfl rfl hH71 (seg_sub 4 rfl) (CellsAt.field (k := 1) (ds := [(S x81.key)]) hc80 rfl) ?_)
              refine s_op (o_move (v := (S key)) e68_2 ?_)
              refine s_op (o_seql (a := x81.key) (b := key) rfl rfl ?_)
              refine s_nil ?_
              refine t_norm (hK77 _ _ ?_)
              refine c_cond rfl (fun h83 => ?_) (fun h83 => ?_)
              · -- x81.key = key
                refine c_region ?_
                refine s_op (o_move (v := (.int .i64 ln)) e68_12 ?_)
                refine s_op (o_add (a := ln) (b := 1) rfl rfl (w64 (by omega) (by omega)) ?_)
                refine s_op (o_assign (v := (.int .i64 (ln + 1))) rfl ?_)
                refine s_nil ?_
                refine b_norm ?_
                refine t_norm (hK76 _ _ ?_)
                refine c_region ?_
                refine s_op (o_move (v := (.int .i64 (k : Int))) e68_13 ?_)
                refine s_op (o_add (a := (k : Int)) (b := 1) rfl rfl (w64 (by omega) (by omega)) ?_)
                refine s_op (o_assign (v := (.int .i64 ((k : Int) + 1))) rfl ?_)
                refine s_nil ?_
                refine t_norm ⟨L.length - (k + 1), _, rfl, ?_, ?_⟩
                · omega
                · exact ⟨(k + 1), (ln + 1), rfl, hH71, (by omega), (cnt_yes hln (show L[k]? = some _ from hx82) h83), (⟨by omega, by omega⟩), e68_0, e68_1, e68_2, e68_3, e68_4, e68_8, e68_9, e68_10, e68_11, rfl, rfl, e68_17, e68_22, e68_46⟩
              · -- not: x81.key = key
                refine wp_skip ?_
                refine b_norm ?_
                refine t_norm (hK76 _ _ ?_)
                refine c_region ?_
                refine s_op (o_move (v := (.int .i64 (k : Int))) e68_13 ?_)
                refine s_op (o_add (a := (k : Int)) (b := 1) rfl rfl (w64 (by omega) (by omega)) ?_)
                refine s_op (o_assign (v := (.int .i64 ((k : Int) + 1))) rfl ?_)
                refine s_nil ?_
                refine t_norm ⟨L.length - (k + 1), _, rfl, ?_, ?_⟩
                · omega
                · exact ⟨(k + 1), ln, rfl, hH71, (by omega), (cnt_no hln (show L[k]? = some _ from hx82) h83), (⟨by omega, by omega⟩), e68_0, e68_1, e68_2, e68_3, e68_4, e68_8, e68_9, e68_10, e68_11, e68_12, rfl, e68_17, e68_22, e68_46⟩
            · -- not: (k : Int) < ((L.length : Nat) : Int)
              refine wp_exit ?_
              refine t_exit (t_exit (x_in (?_)))
              refine t_norm (hK66 _ _ ?_)
              refine wp_seq_k fun K84 hK84 => ?_
              refine wp_seq_k fun K85 hK85 => ?_
              refine c_region ?_
              refine s_op (o_loadN (cs := [v_H, v_L]) Try.underlying86 rfl ti86 e68_4 hH71 (seg_sub 2 rfl) (CellsAt.one rfl) ?_)
              refine s_op (o_loadN (cs := [(.int .i64 owner), (S key), (.bool write)]) Try.underlying183 rfl ti183 e68_10 hH71 (seg_sub 0 rfl) (CellsAt.one rfl) ?_)
              refine s_op (o_callf (vs := #[(.agg #[v_H, v_L]), (.agg #[(.int .i64 owner), (S key), (.bool write)])]) ca137 rfl (args2 rfl rfl) (rfree_c (H := H) (L := L) (c := (Plc.mk key write owner)) hH71.all (h_H.sl.mono (seg_sub 3 rfl)) (h_L.sl.mono (seg_sub 4 rfl))) ?_)
              rintro _ w88 ⟨rfl, hX86⟩
              refine ⟨_, rfl, ?_⟩
              have hH87 := hX86.of_all
              refine s_op (o_move (v := (.bool (freeR H (Plc.mk key write owner)))) rfl ?_)
              rcases Bool.eq_false_or_eq_true (freeR H (Plc.mk key write owner)) with h89 | h89
              · -- (freeR H (Plc.mk key write owner))
                refine s_on 68 rfl (congrArg Value.bool h89) (o_move (v := (.int .i64 (findC H owner key))) e68_11 ?_)
                refine s_on 68 rfl (congrArg Value.bool h89) (o_geq (a := (findC H owner key)) (b := 0) rfl rfl ?_)
                refine s_on 68 rfl (congrArg Value.bool h89) (o_move (v := (.bool (decide (0 ≤ (findC H owner key))))) rfl ?_)
                refine s_off (b' := true) 71 rfl (congrArg Value.bool (decide_eq_true h43)) rfl ?_
                refine s_off (b' := true) 71 rfl (congrArg Value.bool (decide_eq_true h43)) rfl ?_
                refine s_on 68 rfl (congrArg Value.bool h89) (o_pick_t (u := (.bool true)) ((rfl : _ = _).trans (congrArg Value.bool (decide_eq_true h43))) rfl ?_)
                refine s_op (o_pick_t (u := (.bool true)) ((rfl : _ = _).trans (congrArg Value.bool h89)) rfl ?_)
                refine s_nil ?_
                refine t_norm (hK85 _ _ ?_)
                refine c_true rfl rfl ?_
                refine wp_seq_k fun K90 hK90 => ?_
                refine c_region ?_
                refine s_op (o_loadN (cs := [v_H, v_L]) Try.underlying86 rfl ti86 e68_4 hH87 (seg_sub 2 rfl) (CellsAt.one rfl) ?_)
                refine s_op (o_loadN (cs := [(.int .i64 owner), (S key), (.bool write)]) Try.underlying183 rfl ti183 e68_10 hH87 (seg_sub 0 rfl) (CellsAt.one rfl) ?_)
                refine s_op (o_callf (vs := #[(.agg #[v_H, v_L]), (.agg #[(.int .i64 owner), (S key), (.bool write)])]) ca138 rfl (args2 rfl rfl) (rhold_c (H := H) (L := L) (c := (Plc.mk key write owner)) hH87.all (h_H.sl.mono (seg_sub 3 rfl)) (h_L.sl.mono (seg_sub 4 rfl)) (by first | omega | (simp only []; omega) | (simp; done) | (simp; omega))) ?_)
                rintro _ w96 ⟨v91, s92, rfl, ho93, hX94⟩
                refine ⟨_, rfl, ?_⟩
                have hH95 : Has E w96 [s92, [Hp.one b32 (.cells #[(.int .i64 owner), (S key), (.bool write)] 183 (0, 0))], [Hp.one b5 (.cells #[(.slice none 0 0), (.slice none 0 0)] 86 (0, 0))], [Hp.one b2 (.cells #[v_H, v_L] 86 (0, 0))], s_H, s_L, R] := hX94.of_all1
                refine s_eff (o_storeN (vs := [v91, v_L]) (c' := #[v91, v_L]) ti86 e68_8 rfl rfl rfl (by intro u hu; simp only [List.mem_cons, List.not_mem_nil, or_false] at hu; rcases hu with rfl | rfl <;> first | rfl | exact ho93.one | exact h_L.one) (by simp) (by kernel_rfl) (hH95.front 2 rfl) fun w97 hH98 => ?_)
                refine s_op (o_assign (v := (.int .i64 0)) rfl ?_)
                refine s_nil ?_
                refine t_norm (hK90 _ _ ?_)
                refine wp_ret ?_
                refine t_ret (c_retC2 Try.results98 e68_8 (run_loadVarN (cs := [v91, v_L]) Try.underlying86 rfl ti86 hH98 (seg_sub 0 rfl) (CellsAt.one rfl)) (x := (.int .i64 0)) rfl ?_)
                have hc3_ : ¬ (0 ≤ findC H owner key ∧ (((H[(findC H owner key).toNat]?).map (·.wr)).getD false = true ∨ write = false)) := fun g_ => by simp [show H[(findC H owner key).toNat]? = some _ from hx48, h57_n, h49] at g_
                have hk_ : k = L.length := by omega
                rw [hk_, List.take_length] at hln
                have hq_ : (askR H L owner key write) = ((holdR H ⟨key, write, owner⟩, L), 0) := askR_held h10 h23 hc3_ ⟨h89, Or.inl h43⟩
                have q99 : (askR H L owner key write).1.1 = (holdR H (Plc.mk key write owner)) := by rw [hq_]
                have q100 : (askR H L owner key write).1.2 = L := by rw [hq_]
                have q101 : (askR H L owner key write).2 = 0 := by rw [hq_]
                have hH102 : Has E w97 [s92, s_L, R] := (((hH98.front 6 rfl).front 6 rfl).front 3 rfl).first 3 rfl
                exact ⟨_, _, _, _, by rw [q101], (by rw [q99]; exact ho93), (by rw [q100]; exact h_L), hH102⟩
              · -- not: (freeR H (Plc.mk key write owner))
                refine s_off (b' := false) 68 rfl (congrArg Value.bool h89) rfl ?_
                refine s_off (b' := false) 68 rfl (congrArg Value.bool h89) rfl ?_
                refine s_off (b' := false) 68 rfl (congrArg Value.bool h89) rfl ?_
                refine s_offu 71 rfl rfl ?_
                refine s_offu 71 rfl rfl ?_
                refine s_off (b' := false) 68 rfl (congrArg Value.bool h89) rfl ?_
                refine s_op (o_pick_f (u := (.bool false)) ((rfl : _ = _).trans (congrArg Value.bool h89)) rfl ?_)
                refine s_nil ?_
                refine t_norm (hK85 _ _ ?_)
                refine c_false rfl rfl ?_
                refine wp_skip ?_
                refine t_norm (hK84 _ _ ?_)
                refine wp_seq_k fun K103 hK103 => ?_
                refine c_region ?_
                refine s_op (o_fieldAddr (k := 1) (fun _ => by kernel_rfl) e68_4 ?_)
                refine s_op (o_load1 (v := v_L) Try.underlying84 rfl rfl hH87 (seg_sub 2 rfl) (CellsAt.one rfl) ?_)
                refine s_op (o_lenS Try.underlying84 rfl h_L.sl ?_)
                refine s_op (o_assign (v := (.int .i64 ((L.length : Nat) : Int))) rfl ?_)
                refine s_nil ?_
                refine t_norm (hK103 _ _ ?_)
                refine wp_seq_k fun K104 hK104 => ?_
                refine wp_seq_k fun K105 hK105 => ?_
                refine c_region ?_
                refine s_op (o_fieldAddr (k := 1) (fun _ => by kernel_rfl) e68_4 ?_)
                refine s_op (o_load1 (v := v_L) Try.underlying84 rfl rfl hH87 (seg_sub 2 rfl) (CellsAt.one rfl) ?_)
                refine s_op (o_lenS Try.underlying84 rfl h_L.sl ?_)
                refine s_op (o_sub (a := ((L.length : Nat) : Int)) (b := 1) rfl rfl (w64 (by omega) (by omega)) ?_)
                refine s_op (o_assign (v := (.int .i64 (((L.length : Nat) : Int) - 1))) rfl ?_)
                refine s_nil ?_
                refine t_norm (hK105 _ _ ?_)
                refine wp_block ?_
                have hk_ : k = L.length := by omega
                rw [hk_, List.take_length] at hln
                let I107 : Nat → (Nat → Value) → World → Prop := fun n__ r__ w__ => ∃ (ii : Int) (pl : Int), n__ = (ii + 1).toNat ∧ Has E w__ [[Hp.one b32 (.cells #[(.int .i64 owner), (S key), (.bool write)] 183 (0, 0))], [Hp.one b5 (.cells #[(.slice none 0 0), (.slice none 0 0)] 86 (0, 0))], [Hp.one b2 (.cells #[v_H, v_L] 86 (0, 0))], s_H, s_L, R] ∧ (-1 ≤ ii ∧ ii < (L.length : Int)) ∧ (pl = plF (lateC H key) L (ii + 1).toNat) ∧ (¬ 0 ≤ findC H owner key → pl = L.length) ∧ r__ 0 = (.agg #[v_H, v_L]) ∧ r__ 1 = (.int .i64 owner) ∧ r__ 2 = (S key) ∧ r__ 3 = (.bool write) ∧ r__ 4 = (.pointer (some ⟨b2, 0, none⟩)) ∧ r__ 8 = (.pointer (some ⟨b5, 0, none⟩)) ∧ r__ 9 = (.int .i64 0) ∧ r__ 10 = (.pointer (some ⟨b32, 0, none⟩)) ∧ r__ 11 = (.int .i64 (findC H owner key)) ∧ r__ 12 = (.int .i64 ln) ∧ r__ 13 = (.int .i64 (k : Int)) ∧ r__ 14 = (.int .i64 pl) ∧ r__ 15 = (.int .i64 ii) ∧ r__ 17 = (.bool (decide (owner < 0))) ∧ r__ 22 = (.bool (decide (0 ≤ (idxG (ownIs owner) L)))) ∧ r__ 46 = (.bool (!write)) ∧ r__ 52 = (.bool (decide ((k : Int) < ((L.length : Nat) : Int)))) ∧ r__ 75 = (.bool false)
                refine c_loop I107 _ ⟨((L.length : Int) - 1), (L.length : Int), rfl, hH87, ⟨by omega, by omega⟩, (by rw [show ((L.length : Int) - 1 + 1).toNat = L.length from by omega, plF_len]), fun _ => rfl, e68_0, e68_1, e68_2, e68_3, e68_4, e68_8, e68_9, e68_10, e68_11, e68_12, e68_13, rfl, rfl, e68_17, e68_22, e68_46, rfl, rfl⟩ ?_
                rintro n_ r110 w108 ⟨ii, pl, rfl, hH109, hii, hpl, hp0, e106_0, e106_1, e106_2, e106_3, e106_4, e106_8, e106_9, e106_10, e106_11, e106_12, e106_13, e106_14, e106_15, e106_17, e106_22, e106_46, e106_52, e106_75⟩
                obtain ⟨hii1_, hii2_⟩ := hii
                have hpr_ := plF_le (lateC H key) L (ii + 1).toNat (by omega)
                refine wp_seq_k fun K111 hK111 => ?_
                refine wp_seq_k fun K112 hK112 => ?_
                refine c_region ?_
                refine s_op (o_move (v := (.int .i64 ii)) e106_15 ?_)
                refine s_op (o_geq (a := ii) (b := 0) rfl rfl ?_)
                refine s_op (o_move (v := (.bool (decide (0 ≤ ii)))) rfl ?_)
                by_cases h113 : 0 ≤ ii
                · -- 0 ≤ ii
                  refine s_on 88 rfl (congrArg Value.bool (decide_eq_true h113)) (o_move (v := (.int .i64 (findC H owner key))) e106_11 ?_)
                  refine s_on 88 rfl (congrArg Value.bool (decide_eq_true h113)) (o_geq (a := (findC H owner key)) (b := 0) rfl rfl ?_)
                  refine s_op (o_pick_t (u := (.bool (decide (0 ≤ (findC H owner key))))) ((rfl : _ = _).trans (congrArg Value.bool (decide_eq_true h113))) rfl ?_)
                  refine s_nil ?_
                  refine t_norm (hK112 _ _ ?_)
                  refine c_true rfl (decide_eq_true h43) ?_
                  refine wp_skip ?_
                  refine t_norm (hK111 _ _ ?_)
                  refine wp_seq_k fun K114 hK114 => ?_
                  refine wp_block ?_
                  refine wp_seq_k fun K115 hK115 => ?_
                  refine Rest.region mixed (by kernel_rfl) ?_
                  have hH116 : Has E { w108 with drawn := w108.drawn + 1 } [[Hp.one b32 (.cells #[(.int .i64 owner), (S key), (.bool write)] 183 (0, 0))], [Hp.one b5 (.cells #[(.slice none 0 0), (.slice none 0 0)] 86 (0, 0))], [Hp.one b2 (.cells #[v_H, v_L] 86 (0, 0))], s_H, s_L, R] := Has0.drew hH109 _
                  refine Rest.phaseA (fun w_ => Has E w_ [[Hp.one b2 (.cells #[v_H, v_L] 86 (0, 0))], s_L]) 0 7 7 rfl (by decide) (by kernel_rfl) ?_
                  refine a_op 0 rfl (by kernel_rfl) (fun w_ h_ => o_fieldAddr (k := 1) (fun _ => by kernel_rfl) e106_4 ⟨rfl, rfl⟩) ?_
                  refine a_op 1 rfl (by kernel_rfl) (fun w_ h_ => o_load1 (v := v_L) Try.underlying84 rfl rfl h_ (seg_sub 0 rfl) (CellsAt.one rfl) ⟨rfl, rfl⟩) ?_
                  refine a_op 2 rfl (by kernel_rfl) (fun w_ h_ => o_move (v := (.int .i64 ii)) e106_15 ⟨rfl, rfl⟩) ?_
                  obtain ⟨x120, hx121⟩ : ∃ x_, L[(ii).toNat]? = some x_ := get_some (by omega)
                  obtain ⟨b117, o118, hc119, ho122⟩ := ix_exF rcC_len Try.underlying84 ti183 h_L.sl (by omega) hx121
                  refine a_op 3 rfl (by kernel_rfl) (fun w_ h_ => ho122 rfl rfl ⟨rfl, rfl⟩) ?_
                  refine a_op 4 rfl (by kernel_rfl) (fun w_ h_ => o_fieldAddr (k := o118 + 1) (fun _ => by kernel_rfl) rfl ⟨rfl, rfl⟩) ?_
                  refine a_op 5 rfl (by kernel_rfl) (fun w_ h_ => o_load1 (v := (S x120.key)) Try.underlying9 rfl rfl h_ (seg_sub 1 rfl) (CellsAt.field (k := 1) (ds := [(S x120.key)]) hc119 rfl) ⟨rfl, rfl⟩) ?_
                  refine a_op 6 rfl (by kernel_rfl) (fun w_ h_ => o_move (v := (S key)) e106_2 ⟨rfl, rfl⟩) ?_
                  have hH123 : Has E { w108 with drawn := w108.drawn + 1 } [[Hp.one b2 (.cells #[v_H, v_L] 86 (0, 0))], s_L] := ((hH116.front 4 rfl).front 3 rfl).first 2 rfl
                  refine a_done (by kernel_rfl) hH123 ?_
                  refine r_op 7 rfl (by kernel_rfl) (o_seql (a := x120.key) (b := key) rfl rfl ?_)
                  refine r_op 8 rfl (by kernel_rfl) (o_move (v := (.bool (decide (x120.key = key)))) rfl ?_)
                  refine Rest.phaseA (fun w_ => Has E w_ [[Hp.one b2 (.cells #[v_H, v_L] 86 (0, 0))], s_L]) 9 18 9 rfl (by decide) (by kernel_rfl) ?_
                  by_cases h124 : x120.key = key
                  · -- x120.key = key
                    refine a_on 9 rfl (by kernel_rfl) 102 rfl (congrArg Value.bool (decide_eq_true h124)) (fun w_ h_ => o_fieldAddr (k := 0) (fun _ => by kernel_rfl) e106_4 ⟨rfl, rfl⟩) ?_
                    refine a_on 10 rfl (by kernel_rfl) 102 rfl (congrArg Value.bool (decide_eq_true h124)) (fun w_ h_ => o_load1 (v := v_H) Try.underlying84 rfl rfl h_ (seg_sub 0 rfl) (CellsAt.one rfl) ⟨rfl, rfl⟩) ?_
                    refine a_on 11 rfl (by kernel_rfl) 102 rfl (congrArg Value.bool (decide_eq_true h124)) (fun w_ h_ => o_fieldAddr (k := 1) (fun _ => by kernel_rfl) e106_4 ⟨rfl, rfl⟩) ?_
                    refine a_on 12 rfl (by kernel_rfl) 102 rfl (congrArg Value.bool (decide_eq_true h124)) (fun w_ h_ => o_load1 (v := v_L) Try.underlying84 rfl rfl h_ (seg_sub 0 rfl) (CellsAt.one rfl) ⟨rfl, rfl⟩) ?_
                    refine a_on 13 rfl (by kernel_rfl) 102 rfl (congrArg Value.bool (decide_eq_true h124)) (fun w_ h_ => o_move (v := (.int .i64 ii)) e106_15 ⟨rfl, rfl⟩) ?_
                    obtain ⟨b125, o126, hc127, ho128⟩ := ix_exF rcC_len Try.underlying84 ti183 h_L.sl (by omega) hx121
                    refine a_on 14 rfl (by kernel_rfl) 102 rfl (congrArg Value.bool (decide_eq_true h124)) (fun w_ h_ => ho128 rfl rfl ⟨rfl, rfl⟩) ?_
                    refine a_on 15 rfl (by kernel_rfl) 102 rfl (congrArg Value.bool (decide_eq_true h124)) (fun w_ h_ => o_fieldAddr (k := o126) (fun _ => by kernel_rfl) rfl ⟨rfl, rfl⟩) ?_
                    refine a_on 16 rfl (by kernel_rfl) 102 rfl (congrArg Value.bool (decide_eq_true h124)) (fun w_ h_ => o_load1 (v := (.int .i64 x120.own)) Try.underlying3 rfl rfl h_ (seg_sub 1 rfl) (CellsAt.field (k := 0) (ds := [(.int .i64 x120.own)]) hc127 rfl) ⟨rfl, rfl⟩) ?_
                    refine a_on 17 rfl (by kernel_rfl) 102 rfl (congrArg Value.bool (decide_eq_true h124)) (fun w_ h_ => o_move (v := (S key)) e106_2 ⟨rfl, rfl⟩) ?_
                    have hH129 : Has E { w108 with drawn := w108.drawn + 1 } [[Hp.one b2 (.cells #[v_H, v_L] 86 (0, 0))], s_L] := ((hH116.front 4 rfl).front 3 rfl).first 2 rfl
                    refine a_done (by kernel_rfl) hH129 ?_
                    refine r_on 18 rfl (by kernel_rfl) 102 rfl (congrArg Value.bool (decide_eq_true h124)) (o_callf (vs := #[v_H, (.int .i64 x120.own), (S key)]) ca136 rfl (args3 rfl rfl rfl) (rfind_c (l := H) (owner := x120.own) (key := key) hH116.all (h_H.sl.mono (seg_sub 3 rfl))) ?_)
                    rintro _ w132 ⟨rfl, hX130⟩
                    refine ⟨_, rfl, ?_⟩
                    have hH131 := hX130.of_all
                    have := findC_lt H x120.own key
                    refine r_on 19 rfl (by kernel_rfl) 102 rfl (congrArg Value.bool (decide_eq_true h124)) (o_lss (a := (findC H x120.own key)) (b := 0) rfl rfl ?_)
                    refine r_op 20 rfl (by kernel_rfl) (o_pick_t (u := (.bool (decide ((findC H x120.own key) < 0)))) ((rfl : _ = _).trans (congrArg Value.bool (decide_eq_true h124))) rfl ?_)
                    refine Rest.done (by kernel_rfl) ?_
                    refine t_norm (hK115 _ _ ?_)
                    refine c_cond rfl (fun h133 => ?_) (fun h133 => ?_)
                    · -- (findC H x120.own key) < 0
                      refine c_region ?_
                      refine s_op (o_move (v := (.int .i64 ii)) e106_15 ?_)
                      refine s_op (o_assign (v := (.int .i64 ii)) rfl ?_)
                      refine s_nil ?_
                      refine b_norm ?_
                      refine t_norm (hK114 _ _ ?_)
                      refine c_region ?_
                      refine s_op (o_move (v := (.int .i64 ii)) e106_15 ?_)
                      refine s_op (o_sub (a := ii) (b := 1) rfl rfl (w64 (by omega) (by omega)) ?_)
                      refine s_op (o_assign (v := (.int .i64 (ii - 1))) rfl ?_)
                      refine s_nil ?_
                      refine t_norm ⟨((ii - 1) + 1).toNat, _, rfl, ?_, ?_⟩
                      · omega
                      · exact ⟨(ii - 1), ii, rfl, hH131, (⟨by omega, by omega⟩), (by rw [show (ii - 1 + 1).toNat = ii.toNat from by omega, plF_yes (show L[ii.toNat]? = some _ from hx121) (by simp [lateC, keyIs, h124, h133])]; omega), (fun g_ => absurd h43 g_), e106_0, e106_1, e106_2, e106_3, e106_4, e106_8, e106_9, e106_10, e106_11, e106_12, e106_13, rfl, rfl, e106_17, e106_22, e106_46, e106_52, e106_75⟩
                    · -- not: (findC H x120.own key) < 0
                      refine wp_skip ?_
                      refine b_norm ?_
                      refine t_norm (hK114 _ _ ?_)
                      refine c_region ?_
                      refine s_op (o_move (v := (.int .i64 ii)) e106_15 ?_)
                      refine s_op (o_sub (a := ii) (b := 1) rfl rfl (w64 (by omega) (by omega)) ?_)
                      refine s_op (o_assign (v := (.int .i64 (ii - 1))) rfl ?_)
                      refine s_nil ?_
                      refine t_norm ⟨((ii - 1) + 1).toNat, _, rfl, ?_, ?_⟩
                      · omega
                      · exact ⟨(ii - 1), pl, rfl, hH131, (⟨by omega, by omega⟩), (by rw [show (ii - 1 + 1).toNat = ii.toNat from by omega, plF_no (show L[ii.toNat]? = some _ from hx121) (by simp [lateC, keyIs, h124, h133])]; rw [show (ii + 1).toNat = ii.toNat + 1 from by omega] at hpl; exact hpl), (fun g_ => absurd h43 g_), e106_0, e106_1, e106_2, e106_3, e106_4, e106_8, e106_9, e106_10, e106_11, e106_12, e106_13, e106_14, rfl, e106_17, e106_22, e106_46, e106_52, e106_75⟩
                  · -- not: x120.key = key
                    refine a_off (b' := false) 9 rfl (by kernel_rfl) 102 rfl (congrArg Value.bool (decide_eq_false h124)) rfl ?_
                    refine a_off (b' := false) 10 rfl (by kernel_rfl) 102 rfl (congrArg Value.bool (decide_eq_false h124)) rfl ?_
                    refine a_off (b' := false) 11 rfl (by kernel_rfl) 102 rfl (congrArg Value.bool (decide_eq_false h124)) rfl ?_
                    refine a_off (b' := false) 12 rfl (by kernel_rfl) 102 rfl (congrArg Value.bool (decide_eq_false h124)) rfl ?_
                    refine a_off (b' := false) 13 rfl (by kernel_rfl) 102 rfl (congrArg Value.bool (decide_eq_false h124)) rfl ?_
                    refine a_off (b' := false) 14 rfl (by kernel_rfl) 102 rfl (congrArg Value.bool (decide_eq_false h124)) rfl ?_
                    refine a_off (b' := false) 15 rfl (by kernel_rfl) 102 rfl (congrArg Value.bool (decide_eq_false h124)) rfl ?_
                    refine a_off (b' := false) 16 rfl (by kernel_rfl) 102 rfl (congrArg Value.bool (decide_eq_false h124)) rfl ?_
                    refine a_off (b' := false) 17 rfl (by kernel_rfl) 102 rfl (congrArg Value.bool (decide_eq_false h124)) rfl ?_
                    have hH134 : Has E { w108 with drawn := w108.drawn + 1 } [[Hp.one b2 (.cells #[v_H, v_L] 86 (0, 0))], s_L] := ((hH116.front 4 rfl).front 3 rfl).first 2 rfl
                    refine a_done (by kernel_rfl) hH134 ?_
                    refine r_off (b' := false) 18 rfl (by kernel_rfl) 102 rfl (congrArg Value.bool (decide_eq_false h124)) rfl ?_
                    refine r_off (b' := false) 19 rfl (by kernel_rfl) 102 rfl (congrArg Value.bool (decide_eq_false h124)) rfl ?_
                    refine r_op 20 rfl (by kernel_rfl) (o_pick_f (u := (.bool false)) ((rfl : _ = _).trans (congrArg Value.bool (decide_eq_false h124))) rfl ?_)
                    refine Rest.done (by kernel_rfl) ?_
                    refine t_norm (hK115 _ _ ?_)
                    refine c_false rfl rfl ?_
                    refine wp_skip ?_
                    refine b_norm ?_
                    refine t_norm (hK114 _ _ ?_)
                    refine c_region ?_
                    refine s_op (o_move (v := (.int .i64 ii)) e106_15 ?_)
                    refine s_op (o_sub (a := ii) (b := 1) rfl rfl (w64 (by omega) (by omega)) ?_)
                    refine s_op (o_assign (v := (.int .i64 (ii - 1))) rfl ?_)
                    refine s_nil ?_
                    refine t_norm ⟨((ii - 1) + 1).toNat, _, rfl, ?_, ?_⟩
                    · omega
                    · exact ⟨(ii - 1), pl, rfl, hH116, (⟨by omega, by omega⟩), (by rw [show (ii - 1 + 1).toNat = ii.toNat from by omega, plF_no (show L[ii.toNat]? = some _ from hx121) (by simp [lateC, keyIs, h124])]; rw [show (ii + 1).toNat = ii.toNat + 1 from by omega] at hpl; exact hpl), (fun g_ => absurd h43 g_), e106_0, e106_1, e106_2, e106_3, e106_4, e106_8, e106_9, e106_10, e106_11, e106_12, e106_13, e106_14, rfl, e106_17, e106_22, e106_46, e106_52, e106_75⟩
                · -- not: 0 ≤ ii
                  refine s_off (b' := false) 88 rfl (congrArg Value.bool (decide_eq_false h113)) rfl ?_
                  refine s_off (b' := false) 88 rfl (congrArg Value.bool (decide_eq_false h113)) rfl ?_
                  refine s_op (o_pick_f (u := (.bool false)) ((rfl : _ = _).trans (congrArg Value.bool (decide_eq_false h113))) rfl ?_)
                  refine s_nil ?_
                  refine t_norm (hK112 _ _ ?_)
                  refine c_false rfl rfl ?_
                  refine wp_exit ?_
                  refine t_exit (t_exit (x_in (?_)))
                  refine t_norm (hK104 _ _ ?_)
                  refine wp_seq_k fun K135 hK135 => ?_
                  refine c_region ?_
                  refine s_op (o_fieldAddr (k := 1) (fun _ => by kernel_rfl) e106_4 ?_)
                  refine s_op (o_load1 (v := v_L) Try.underlying84 rfl rfl hH109 (seg_sub 2 rfl) (CellsAt.one rfl) ?_)
                  refine s_op (o_move (v := (.int .i64 pl)) e106_14 ?_)
                  refine s_op (o_loadN (cs := [(.int .i64 owner), (S key), (.bool write)]) Try.underlying183 rfl ti183 e106_10 hH109 (seg_sub 0 rfl) (CellsAt.one rfl) ?_)
                  refine s_op (o_callf (vs := #[v_L, (.int .i64 pl), (.agg #[(.int .i64 owner), (S key), (.bool write)])]) ca139 rfl (args3 rfl rfl rfl) (rwith_c (l := L) (ix := pl) (c := (Plc.mk key write owner)) hH109.all (h_L.sl.mono (seg_sub 4 rfl)) (by first | omega | (simp only []; omega) | (simp; done) | (simp; omega)) (by first | omega | (simp only []; omega) | (simp; done) | (simp; omega))) ?_)
                  rintro _ w141 ⟨v136, s137, rfl, ho138, hX139⟩
                  refine ⟨_, rfl, ?_⟩
                  have hH140 : Has E w141 [s137, [Hp.one b32 (.cells #[(.int .i64 owner), (S key), (.bool write)] 183 (0, 0))], [Hp.one b5 (.cells #[(.slice none 0 0), (.slice none 0 0)] 86 (0, 0))], [Hp.one b2 (.cells #[v_H, v_L] 86 (0, 0))], s_H, s_L, R] := hX139.of_all1
                  refine s_op (o_fieldAddr (k := 1) (fun _ => by kernel_rfl) e106_4 ?_)
                  refine s_eff (o_store1 (c' := #[v_H, v136]) ti84 rfl rfl ho138.one (by simp) rfl (hH140.front 3 rfl) fun w142 hH143 => ?_)
                  refine s_nil ?_
                  refine t_norm (hK135 _ _ ?_)
                  refine wp_seq_k fun K144 hK144 => ?_
                  refine c_region ?_
                  refine s_op (o_loadN (cs := [v_H, v136]) Try.underlying86 rfl ti86 e106_4 hH143 (seg_sub 0 rfl) (CellsAt.one rfl) ?_)
                  refine s_eff (o_storeN (vs := [v_H, v136]) (c' := #[v_H, v136]) ti86 e106_8 rfl rfl rfl (by intro u hu; simp only [List.mem_cons, List.not_mem_nil, or_false] at hu; rcases hu with rfl | rfl <;> first | rfl | exact h_H.one | exact ho138.one) (by simp) (by kernel_rfl) (hH143.front 3 rfl) fun w145 hH146 => ?_)
                  refine s_op (o_assign (v := (.int .i64 10)) rfl ?_)
                  refine s_nil ?_
                  refine t_norm (hK144 _ _ ?_)
                  refine wp_ret ?_
                  refine c_retC2 Try.results98 e106_8 (run_loadVarN (cs := [v_H, v136]) Try.underlying86 rfl ti86 hH146 (seg_sub 0 rfl) (CellsAt.one rfl)) (x := (.int .i64 10)) rfl ?_
                  have hc3_ : ¬ (0 ≤ findC H owner key ∧ (((H[(findC H owner key).toNat]?).map (·.wr)).getD false = true ∨ write = false)) := fun g_ => by simp [show H[(findC H owner key).toNat]? = some _ from hx48, h57_n, h49] at g_
                  have hc4_ : ¬ (freeR H ⟨key, write, owner⟩ = true ∧ (0 ≤ findC H owner key ∨ (L.filter (keyIs key)).length = 0)) := fun g_ => absurd g_.1 (by rw [h89]; decide)
                  have hq_ : (askR H L owner key write) = ((H, insAt L pl.toNat ⟨key, write, owner⟩), 10) := askR_line h10 h23 hc3_ hc4_ (by rw [placeR_yes h43, hpl, show (ii + 1).toNat = 0 from by omega])
                  have q147 : (askR H L owner key write).1.1 = H := by rw [hq_]
                  have q148 : (askR H L owner key write).1.2 = (insAt L pl.toNat (Plc.mk key write owner)) := by rw [hq_]
                  have q149 : (askR H L owner key write).2 = 10 := by rw [hq_]
                  have hH150 : Has E w145 [s_H, s137, R] := (((hH146.front 6 rfl).front 3 rfl).front 5 rfl).first 3 rfl
                  exact ⟨_, _, _, _, by rw [q149], (by rw [q147]; exact h_H), (by rw [q148]; exact ho138), hH150⟩
      · -- not: 0 ≤ (findC H owner key)
        refine s_off (b' := false) 35 rfl (congrArg Value.bool (decide_eq_false h43)) rfl ?_
        refine s_off (b' := false) 35 rfl (congrArg Value.bool (decide_eq_false h43)) rfl ?_
        refine s_off (b' := false) 35 rfl (congrArg Value.bool (decide_eq_false h43)) rfl ?_
        refine s_off (b' := false) 35 rfl (congrArg Value.bool (decide_eq_false h43)) rfl ?_
        refine s_off (b' := false) 35 rfl (congrArg Value.bool (decide_eq_false h43)) rfl ?_
        refine s_off (b' := false) 35 rfl (congrArg Value.bool (decide_eq_false h43)) rfl ?_
        refine s_off (b' := false) 35 rfl (congrArg Value.bool (decide_eq_false h43)) rfl ?_
        refine s_offu 42 rfl rfl ?_
        refine s_offu 42 rfl rfl ?_
        refine s_off (b' := false) 35 rfl (congrArg Value.bool (decide_eq_false h43)) rfl ?_
        refine s_op (o_pick_f (u := (.bool false)) ((rfl : _ = _).trans (congrArg Value.bool (decide_eq_false h43))) rfl ?_)
        refine s_nil ?_
        refine t_norm (hK42 _ _ ?_)
        refine c_false rfl rfl ?_
        refine wp_skip ?_
        refine t_norm (hK41 _ _ ?_)
        refine wp_seq_k fun K151 hK151 => ?_
        refine c_region ?_
        refine s_op (o_assign (v := (.int .i64 0)) rfl ?_)
        refine s_nil ?_
        refine t_norm (hK151 _ _ ?_)
        refine wp_seq_k fun K152 hK152 => ?_
        refine wp_seq_k fun K153 hK153 => ?_
        refine c_region ?_
        refine s_op (o_assign (v := (.int .i64 0)) rfl ?_)
        refine s_nil ?_
        refine t_norm (hK153 _ _ ?_)
        refine wp_block ?_
        let I155 : Nat → (Nat → Value) → World → Prop := fun n__ r__ w__ => ∃ (k : Nat) (ln : Int), n__ = L.length - k ∧ Has E w__ [[Hp.one b32 (.cells #[(.int .i64 owner), (S key), (.bool write)] 183 (0, 0))], [Hp.one b5 (.cells #[(.slice none 0 0), (.slice none 0 0)] 86 (0, 0))], [Hp.one b2 (.cells #[v_H, v_L] 86 (0, 0))], s_H, s_L, R] ∧ (k ≤ L.length) ∧ (ln = (((L.take k).filter (keyIs key)).length : Int)) ∧ (0 ≤ ln ∧ ln ≤ k) ∧ r__ 0 = (.agg #[v_H, v_L]) ∧ r__ 1 = (.int .i64 owner) ∧ r__ 2 = (S key) ∧ r__ 3 = (.bool write) ∧ r__ 4 = (.pointer (some ⟨b2, 0, none⟩)) ∧ r__ 8 = (.pointer (some ⟨b5, 0, none⟩)) ∧ r__ 9 = (.int .i64 0) ∧ r__ 10 = (.pointer (some ⟨b32, 0, none⟩)) ∧ r__ 11 = (.int .i64 (findC H owner key)) ∧ r__ 12 = (.int .i64 ln) ∧ r__ 13 = (.int .i64 (k : Int)) ∧ r__ 17 = (.bool (decide (owner < 0))) ∧ r__ 22 = (.bool (decide (0 ≤ (idxG (ownIs owner) L)))) ∧ r__ 46 = (.bool false)
        refine c_loop I155 _ ⟨0, 0, rfl, hH39, Nat.zero_le _, rfl, ⟨by omega, by omega⟩, rfl, rfl, rfl, rfl, rfl, rfl, rfl, rfl, rfl, rfl, rfl, rfl, rfl, rfl⟩ ?_
        rintro n_ r158 w156 ⟨k, ln, rfl, hH157, hk, hln, hln2, e154_0, e154_1, e154_2, e154_3, e154_4, e154_8, e154_9, e154_10, e154_11, e154_12, e154_13, e154_17, e154_22, e154_46⟩
        obtain ⟨hln1_, hln2_⟩ := hln2
        refine wp_seq_k fun K159 hK159 => ?_
        refine wp_seq_k fun K160 hK160 => ?_
        refine c_region ?_
        refine s_op (o_move (v := (.int .i64 (k : Int))) e154_13 ?_)
        refine s_op (o_fieldAddr (k := 1) (fun _ => by kernel_rfl) e154_4 ?_)
        refine s_op (o_load1 (v := v_L) Try.underlying84 rfl rfl hH157 (seg_sub 2 rfl) (CellsAt.one rfl) ?_)
        refine s_op (o_lenS Try.underlying84 rfl h_L.sl ?_)
        refine s_op (o_lss (a := (k : Int)) (b := ((L.length : Nat) : Int)) rfl rfl ?_)
        refine s_nil ?_
        refine t_norm (hK160 _ _ ?_)
        refine c_cond rfl (fun h161 => ?_) (fun h161 => ?_)
        · -- (k : Int) < ((L.length : Nat) : Int)
          refine wp_skip ?_
          refine t_norm (hK159 _ _ ?_)
          refine wp_seq_k fun K162 hK162 => ?_
          refine wp_block ?_
          refine wp_seq_k fun K163 hK163 => ?_
          refine c_region ?_
          refine s_op (o_fieldAddr (k := 1) (fun _ => by kernel_rfl) e154_4 ?_)
          refine s_op (o_load1 (v := v_L) Try.underlying84 rfl rfl hH157 (seg_sub 2 rfl) (CellsAt.one rfl) ?_)
          refine s_op (o_move (v := (.int .i64 (k : Int))) e154_13 ?_)
          obtain ⟨x167, hx168⟩ : ∃ x_, L[((k : Int)).toNat]? = some x_ := get_some (by omega)
          refine s_op (o_indexF rcC_len Try.underlying84 ti183 rfl h_L.sl rfl rfl (by omega) hx168 fun b164 o165 hc166 => ?_)
          refine s_op (o_fieldAddr (k := o165 + 1) (fun _ => by kernel_rfl) rfl ?_)
          refine s_op (o_load1 (v := (S x167.key)) Try.underlying9 rfl rfl hH157 (seg_sub 4 rfl) (CellsAt.field (k := 1) (ds := [(S x167.key)]) hc166 rfl) ?_)
          refine s_op (o_move (v := (S key)) e154_2 ?_)
          refine s_op (o_seql (a := x167.key) (b := key) rfl rfl ?_)
          refine s_nil ?_
          refine t_norm (hK163 _ _ ?_)
          refine c_cond rfl (fun h169 => ?_) (fun h169 => ?_)
          · -- x167.key = key
            refine c_region ?_
            refine s_op (o_move (v := (.int .i64 ln)) e154_12 ?_)
            refine s_op (o_add (a := ln) (b := 1) rfl rfl (w64 (by omega) (by omega)) ?_)
            refine s_op (o_assign (v := (.int .i64 (ln + 1))) rfl ?_)
            refine s_nil ?_
            refine b_norm ?_
            refine t_norm (hK162 _ _ ?_)
            refine c_region ?_
            refine s_op (o_move (v := (.int .i64 (k : Int))) e154_13 ?_)
            refine s_op (o_add (a := (k : Int)) (b := 1) rfl rfl (w64 (by omega) (by omega)) ?_)
            refine s_op (o_assign (v := (.int .i64 ((k : Int) + 1))) rfl ?_)
            refine s_nil ?_
            refine t_norm ⟨L.length - (k + 1), _, rfl, ?_, ?_⟩
            · omega
            · exact ⟨(k + 1), (ln + 1), rfl, hH157, (by omega), (cnt_yes hln (show L[k]? = some _ from hx168) h169), (⟨by omega, by omega⟩), e154_0, e154_1, e154_2, e154_3, e154_4, e154_8, e154_9, e154_10, e154_11, rfl, rfl, e154_17, e154_22, e154_46⟩
          · -- not: x167.key = key
            refine wp_skip ?_
            refine b_norm ?_
            refine t_norm (hK162 _ _ ?_)
            refine c_region ?_
            refine s_op (o_move (v := (.int .i64 (k : Int))) e154_13 ?_)
            refine s_op (o_add (a := (k : Int)) (b := 1) rfl rfl (w64 (by omega) (by omega)) ?_)
            refine s_op (o_assign (v := (.int .i64 ((k : Int) + 1))) rfl ?_)
            refine s_nil ?_
            refine t_norm ⟨L.length - (k + 1), _, rfl, ?_, ?_⟩
            · omega
            · exact ⟨(k + 1), ln, rfl, hH157, (by omega), (cnt_no hln (show L[k]? = some _ from hx168) h169), (⟨by omega, by omega⟩), e154_0, e154_1, e154_2, e154_3, e154_4, e154_8, e154_9, e154_10, e154_11, e154_12, rfl, e154_17, e154_22, e154_46⟩
        · -- not: (k : Int) < ((L.length : Nat) : Int)
          refine wp_exit ?_
          refine t_exit (t_exit (x_in (?_)))
          refine t_norm (hK152 _ _ ?_)
          refine wp_seq_k fun K170 hK170 => ?_
          refine wp_seq_k fun K171 hK171 => ?_
          refine c_region ?_
          refine s_op (o_loadN (cs := [v_H, v_L]) Try.underlying86 rfl ti86 e154_4 hH157 (seg_sub 2 rfl) (CellsAt.one rfl) ?_)
          refine s_op (o_loadN (cs := [(.int .i64 owner), (S key), (.bool write)]) Try.underlying183 rfl ti183 e154_10 hH157 (seg_sub 0 rfl) (CellsAt.one rfl) ?_)
          refine s_op (o_callf (vs := #[(.agg #[v_H, v_L]), (.agg #[(.int .i64 owner), (S key), (.bool write)])]) ca137 rfl (args2 rfl rfl) (rfree_c (H := H) (L := L) (c := (Plc.mk key write owner)) hH157.all (h_H.sl.mono (seg_sub 3 rfl)) (h_L.sl.mono (seg_sub 4 rfl))) ?_)
          rintro _ w174 ⟨rfl, hX172⟩
          refine ⟨_, rfl, ?_⟩
          have hH173 := hX172.of_all
          refine s_op (o_move (v := (.bool (freeR H (Plc.mk key write owner)))) rfl ?_)
          rcases Bool.eq_false_or_eq_true (freeR H (Plc.mk key write owner)) with h175 | h175
          · -- (freeR H (Plc.mk key write owner))
            refine s_on 68 rfl (congrArg Value.bool h175) (o_move (v := (.int .i64 (findC H owner key))) e154_11 ?_)
            refine s_on 68 rfl (congrArg Value.bool h175) (o_geq (a := (findC H owner key)) (b := 0) rfl rfl ?_)
            refine s_on 68 rfl (congrArg Value.bool h175) (o_move (v := (.bool (decide (0 ≤ (findC H owner key))))) rfl ?_)
            refine s_on 71 rfl (congrArg Value.bool (decide_eq_false h43)) (o_move (v := (.int .i64 ln)) e154_12 ?_)
            refine s_on 71 rfl (congrArg Value.bool (decide_eq_false h43)) (o_eql (a := ln) (b := 0) rfl rfl ?_)
            refine s_on 68 rfl (congrArg Value.bool h175) (o_pick_f (u := (.bool (decide (ln = 0)))) ((rfl : _ = _).trans (congrArg Value.bool (decide_eq_false h43))) rfl ?_)
            refine s_op (o_pick_t (u := (.bool (decide (ln = 0)))) ((rfl : _ = _).trans (congrArg Value.bool h175)) rfl ?_)
            refine s_nil ?_
            refine t_norm (hK171 _ _ ?_)
            refine c_cond rfl (fun h176 => ?_) (fun h176 => ?_)
            · -- ln = 0
              refine wp_seq_k fun K177 hK177 => ?_
              refine c_region ?_
              refine s_op (o_loadN (cs := [v_H, v_L]) Try.underlying86 rfl ti86 e154_4 hH173 (seg_sub 2 rfl) (CellsAt.one rfl) ?_)
              refine s_op (o_loadN (cs := [(.int .i64 owner), (S key), (.bool write)]) Try.underlying183 rfl ti183 e154_10 hH173 (seg_sub 0 rfl) (CellsAt.one rfl) ?_)
              refine s_op (o_callf (vs := #[(.agg #[v_H, v_L]), (.agg #[(.int .i64 owner), (S key), (.bool write)])]) ca138 rfl (args2 rfl rfl) (rhold_c (H := H) (L := L) (c := (Plc.mk key write owner)) hH173.all (h_H.sl.mono (seg_sub 3 rfl)) (h_L.sl.mono (seg_sub 4 rfl)) (by first | omega | (simp only []; omega) | (simp; done) | (simp; omega))) ?_)
              rintro _ w183 ⟨v178, s179, rfl, ho180, hX181⟩
              refine ⟨_, rfl, ?_⟩
              have hH182 : Has E w183 [s179, [Hp.one b32 (.cells #[(.int .i64 owner), (S key), (.bool write)] 183 (0, 0))], [Hp.one b5 (.cells #[(.slice none 0 0), (.slice none 0 0)] 86 (0, 0))], [Hp.one b2 (.cells #[v_H, v_L] 86 (0, 0))], s_H, s_L, R] := hX181.of_all1
              refine s_eff (o_storeN (vs := [v178, v_L]) (c' := #[v178, v_L]) ti86 e154_8 rfl rfl rfl (by intro u hu; simp only [List.mem_cons, List.not_mem_nil, or_false] at hu; rcases hu with rfl | rfl <;> first | rfl | exact ho180.one | exact h_L.one) (by simp) (by kernel_rfl) (hH182.front 2 rfl) fun w184 hH185 => ?_)
              refine s_op (o_assign (v := (.int .i64 0)) rfl ?_)
              refine s_nil ?_
              refine t_norm (hK177 _ _ ?_)
              refine wp_ret ?_
              refine t_ret (c_retC2 Try.results98 e154_8 (run_loadVarN (cs := [v178, v_L]) Try.underlying86 rfl ti86 hH185 (seg_sub 0 rfl) (CellsAt.one rfl)) (x := (.int .i64 0)) rfl ?_)
              have hc3_ : ¬ (0 ≤ findC H owner key ∧ (((H[(findC H owner key).toNat]?).map (·.wr)).getD false = true ∨ write = false)) := fun g_ => h43 g_.1
              have hk_ : k = L.length := by omega
              rw [hk_, List.take_length] at hln
              have hq_ : (askR H L owner key write) = ((holdR H ⟨key, write, owner⟩, L), 0) := askR_held h10 h23 hc3_ ⟨h175, Or.inr (by omega)⟩
              have q186 : (askR H L owner key write).1.1 = (holdR H (Plc.mk key write owner)) := by rw [hq_]
              have q187 : (askR H L owner key write).1.2 = L := by rw [hq_]
              have q188 : (askR H L owner key write).2 = 0 := by rw [hq_]
              have hH189 : Has E w184 [s179, s_L, R] := (((hH185.front 6 rfl).front 6 rfl).front 3 rfl).first 3 rfl
              exact ⟨_, _, _, _, by rw [q188], (by rw [q186]; exact ho180), (by rw [q187]; exact h_L), hH189⟩
            · -- not: ln = 0
              refine wp_skip ?_
              refine t_norm (hK170 _ _ ?_)
              refine wp_seq_k fun K190 hK190 => ?_
              refine c_region ?_
              refine s_op (o_fieldAddr (k := 1) (fun _ => by kernel_rfl) e154_4 ?_)
              refine s_op (o_load1 (v := v_L) Try.underlying84 rfl rfl hH173 (seg_sub 2 rfl) (CellsAt.one rfl) ?_)
              refine s_op (o_lenS Try.underlying84 rfl h_L.sl ?_)
              refine s_op (o_assign (v := (.int .i64 ((L.length : Nat) : Int))) rfl ?_)
              refine s_nil ?_
              refine t_norm (hK190 _ _ ?_)
              refine wp_seq_k fun K191 hK191 => ?_
              refine wp_seq_k fun K192 hK192 => ?_
              refine c_region ?_
              refine s_op (o_fieldAddr (k := 1) (fun _ => by kernel_rfl) e154_4 ?_)
              refine s_op (o_load1 (v := v_L) Try.underlying84 rfl rfl hH173 (seg_sub 2 rfl) (CellsAt.one rfl) ?_)
              refine s_op (o_lenS Try.underlying84 rfl h_L.sl ?_)
              refine s_op (o_sub (a := ((L.length : Nat) : Int)) (b := 1) rfl rfl (w64 (by omega) (by omega)) ?_)
              refine s_op (o_assign (v := (.int .i64 (((L.length : Nat) : Int) - 1))) rfl ?_)
              refine s_nil ?_
              refine t_norm (hK192 _ _ ?_)
              refine wp_block ?_
              have hk_ : k = L.length := by omega
              rw [hk_, List.take_length] at hln
              let I194 : Nat → (Nat → Value) → World → Prop := fun n__ r__ w__ => ∃ (ii : Int) (pl : Int), n__ = (ii + 1).toNat ∧ Has E w__ [[Hp.one b32 (.cells #[(.int .i64 owner), (S key), (.bool write)] 183 (0, 0))], [Hp.one b5 (.cells #[(.slice none 0 0), (.slice none 0 0)] 86 (0, 0))], [Hp.one b2 (.cells #[v_H, v_L] 86 (0, 0))], s_H, s_L, R] ∧ (-1 ≤ ii ∧ ii < (L.length : Int)) ∧ (pl = plF (lateC H key) L (ii + 1).toNat) ∧ (¬ 0 ≤ findC H owner key → pl = L.length) ∧ r__ 0 = (.agg #[v_H, v_L]) ∧ r__ 1 = (.int .i64 owner) ∧ r__ 2 = (S key) ∧ r__ 3 = (.bool write) ∧ r__ 4 = (.pointer (some ⟨b2, 0, none⟩)) ∧ r__ 8 = (.pointer (some ⟨b5, 0, none⟩)) ∧ r__ 9 = (.int .i64 0) ∧ r__ 10 = (.pointer (some ⟨b32, 0, none⟩)) ∧ r__ 11 = (.int .i64 (findC H owner key)) ∧ r__ 12 = (.int .i64 ln) ∧ r__ 13 = (.int .i64 (k : Int)) ∧ r__ 14 = (.int .i64 pl) ∧ r__ 15 = (.int .i64 ii) ∧ r__ 17 = (.bool (decide (owner < 0))) ∧ r__ 22 = (.bool (decide (0 ≤ (idxG (ownIs owner) L)))) ∧ r__ 46 = (.bool false) ∧ r__ 52 = (.bool (decide ((k : Int) < ((L.length : Nat) : Int)))) ∧ r__ 75 = (.bool (decide (ln = 0)))
              refine c_loop I194 _ ⟨((L.length : Int) - 1), (L.length : Int), rfl, hH173, ⟨by omega, by omega⟩, (by rw [show ((L.length : Int) - 1 + 1).toNat = L.length from by omega, plF_len]), fun _ => rfl, e154_0, e154_1, e154_2, e154_3, e154_4, e154_8, e154_9, e154_10, e154_11, e154_12, e154_13, rfl, rfl, e154_17, e154_22, e154_46, rfl, rfl⟩ ?_
              rintro n_ r197 w195 ⟨ii, pl, rfl, hH196, hii, hpl, hp0, e193_0, e193_1, e193_2, e193_3, e193_4, e193_8, e193_9, e193_10, e193_11, e193_12, e193_13, e193_14, e193_15, e193_17, e193_22, e193_46, e193_52, e193_75⟩
              obtain ⟨hii1_, hii2_⟩ := hii
              have hpr_ := plF_le (lateC H key) L (ii + 1).toNat (by omega)
              refine wp_seq_k fun K198 hK198 => ?_
              refine wp_seq_k fun K199 hK199 => ?_
              refine c_region ?_
              refine s_op (o_move (v := (.int .i64 ii)) e193_15 ?_)
              refine s_op (o_geq (a := ii) (b := 0) rfl rfl ?_)
              refine s_op (o_move (v := (.bool (decide (0 ≤ ii)))) rfl ?_)
              by_cases h200 : 0 ≤ ii
              · -- 0 ≤ ii
                refine s_on 88 rfl (congrArg Value.bool (decide_eq_true h200)) (o_move (v := (.int .i64 (findC H owner key))) e193_11 ?_)
                refine s_on 88 rfl (congrArg Value.bool (decide_eq_true h200)) (o_geq (a := (findC H owner key)) (b := 0) rfl rfl ?_)
                refine s_op (o_pick_t (u := (.bool (decide (0 ≤ (findC H owner key))))) ((rfl : _ = _).trans (congrArg Value.bool (decide_eq_true h200))) rfl ?_)
                refine s_nil ?_
                refine t_norm (hK199 _ _ ?_)
                refine c_false rfl (decide_eq_false h43) ?_
                refine wp_exit ?_
                refine t_exit (t_exit (x_in (?_)))
                refine t_norm (hK191 _ _ ?_)
                refine wp_seq_k fun K201 hK201 => ?_
                refine c_region ?_
                refine s_op (o_fieldAddr (k := 1) (fun _ => by kernel_rfl) e193_4 ?_)
                refine s_op (o_load1 (v := v_L) Try.underlying84 rfl rfl hH196 (seg_sub 2 rfl) (CellsAt.one rfl) ?_)
                refine s_op (o_move (v := (.int .i64 pl)) e193_14 ?_)
                refine s_op (o_loadN (cs := [(.int .i64 owner), (S key), (.bool write)]) Try.underlying183 rfl ti183 e193_10 hH196 (seg_sub 0 rfl) (CellsAt.one rfl) ?_)
                refine s_op (o_callf (vs := #[v_L, (.int .i64 pl), (.agg #[(.int .i64 owner), (S key), (.bool write)])]) ca139 rfl (args3 rfl rfl rfl) (rwith_c (l := L) (ix := pl) (c := (Plc.mk key write owner)) hH196.all (h_L.sl.mono (seg_sub 4 rfl)) (by first | omega | (simp only []; omega) | (simp; done) | (simp; omega)) (by first | omega | (simp only []; omega) | (simp; done) | (simp; omega))) ?_)
                rintro _ w207 ⟨v202, s203, rfl, ho204, hX205⟩
                refine ⟨_, rfl, ?_⟩
                have hH206 : Has E w207 [s203, [Hp.one b32 (.cells #[(.int .i64 owner), (S key), (.bool write)] 183 (0, 0))], [Hp.one b5 (.cells #[(.slice none 0 0), (.slice none 0 0)] 86 (0, 0))], [Hp.one b2 (.cells #[v_H, v_L] 86 (0, 0))], s_H, s_L, R] := hX205.of_all1
                refine s_op (o_fieldAddr (k := 1) (fun _ => by kernel_rfl) e193_4 ?_)
                refine s_eff (o_store1 (c' := #[v_H, v202]) ti84 rfl rfl ho204.one (by simp) rfl (hH206.front 3 rfl) fun w208 hH209 => ?_)
                refine s_nil ?_
                refine t_norm (hK201 _ _ ?_)
                refine wp_seq_k fun K210 hK210 => ?_
                refine c_region ?_
                refine s_op (o_loadN (cs := [v_H, v202]) Try.underlying86 rfl ti86 e193_4 hH209 (seg_sub 0 rfl) (CellsAt.one rfl) ?_)
                refine s_eff (o_storeN (vs := [v_H, v202]) (c' := #[v_H, v202]) ti86 e193_8 rfl rfl rfl (by intro u hu; simp only [List.mem_cons, List.not_mem_nil, or_false] at hu; rcases hu with rfl | rfl <;> first | rfl | exact h_H.one | exact ho204.one) (by simp) (by kernel_rfl) (hH209.front 3 rfl) fun w211 hH212 => ?_)
                refine s_op (o_assign (v := (.int .i64 10)) rfl ?_)
                refine s_nil ?_
                refine t_norm (hK210 _ _ ?_)
                refine wp_ret ?_
                refine c_retC2 Try.results98 e193_8 (run_loadVarN (cs := [v_H, v202]) Try.underlying86 rfl ti86 hH212 (seg_sub 0 rfl) (CellsAt.one rfl)) (x := (.int .i64 10)) rfl ?_
                have hc3_ : ¬ (0 ≤ findC H owner key ∧ (((H[(findC H owner key).toNat]?).map (·.wr)).getD false = true ∨ write = false)) := fun g_ => h43 g_.1
                have hc4_ : ¬ (freeR H ⟨key, write, owner⟩ = true ∧ (0 ≤ findC H owner key ∨ (L.filter (keyIs key)).length = 0)) := fun g_ => g_.2.elim (fun g2_ => h43 g2_) (fun g2_ => h176 (by omega))
                have hq_ : (askR H L owner key write) = ((H, insAt L pl.toNat ⟨key, write, owner⟩), 10) := askR_line h10 h23 hc3_ hc4_ (by rw [placeR_no h43]; exact hp0 h43)
                have q213 : (askR H L owner key write).1.1 = H := by rw [hq_]
                have q214 : (askR H L owner key write).1.2 = (insAt L pl.toNat (Plc.mk key write owner)) := by rw [hq_]
                have q215 : (askR H L owner key write).2 = 10 := by rw [hq_]
                have hH216 : Has E w211 [s_H, s203, R] := (((hH212.front 6 rfl).front 3 rfl).front 5 rfl).first 3 rfl
                exact ⟨_, _, _, _, by rw [q215], (by rw [q213]; exact h_H), (by rw [q214]; exact ho204), hH216⟩
              · -- not: 0 ≤ ii
                refine s_off (b' := false) 88 rfl (congrArg Value.bool (decide_eq_false h200)) rfl ?_
                refine s_off (b' := false) 88 rfl (congrArg Value.bool (decide_eq_false h200)) rfl ?_
                refine s_op (o_pick_f (u := (.bool false)) ((rfl : _ = _).trans (congrArg Value.bool (decide_eq_false h200))) rfl ?_)
                refine s_nil ?_
                refine t_norm (hK199 _ _ ?_)
                refine c_false rfl rfl ?_
                refine wp_exit ?_
                refine t_exit (t_exit (x_in (?_)))
                refine t_norm (hK191 _ _ ?_)
                refine wp_seq_k fun K217 hK217 => ?_
                refine c_region ?_
                refine s_op (o_fieldAddr (k := 1) (fun _ => by kernel_rfl) e193_4 ?_)
                refine s_op (o_load1 (v := v_L) Try.underlying84 rfl rfl hH196 (seg_sub 2 rfl) (CellsAt.one rfl) ?_)
                refine s_op (o_move (v := (.int .i64 pl)) e193_14 ?_)
                refine s_op (o_loadN (cs := [(.int .i64 owner), (S key), (.bool write)]) Try.underlying183 rfl ti183 e193_10 hH196 (seg_sub 0 rfl) (CellsAt.one rfl) ?_)
                refine s_op (o_callf (vs := #[v_L, (.int .i64 pl), (.agg #[(.int .i64 owner), (S key), (.bool write)])]) ca139 rfl (args3 rfl rfl rfl) (rwith_c (l := L) (ix := pl) (c := (Plc.mk key write owner)) hH196.all (h_L.sl.mono (seg_sub 4 rfl)) (by first | omega | (simp only []; omega) | (simp; done) | (simp; omega)) (by first | omega | (simp only []; omega) | (simp; done) | (simp; omega))) ?_)
                rintro _ w223 ⟨v218, s219, rfl, ho220, hX221⟩
                refine ⟨_, rfl, ?_⟩
                have hH222 : Has E w223 [s219, [Hp.one b32 (.cells #[(.int .i64 owner), (S key), (.bool write)] 183 (0, 0))], [Hp.one b5 (.cells #[(.slice none 0 0), (.slice none 0 0)] 86 (0, 0))], [Hp.one b2 (.cells #[v_H, v_L] 86 (0, 0))], s_H, s_L, R] := hX221.of_all1
                refine s_op (o_fieldAddr (k := 1) (fun _ => by kernel_rfl) e193_4 ?_)
                refine s_eff (o_store1 (c' := #[v_H, v218]) ti84 rfl rfl ho220.one (by simp) rfl (hH222.front 3 rfl) fun w224 hH225 => ?_)
                refine s_nil ?_
                refine t_norm (hK217 _ _ ?_)
                refine wp_seq_k fun K226 hK226 => ?_
                refine c_region ?_
                refine s_op (o_loadN (cs := [v_H, v218]) Try.underlying86 rfl ti86 e193_4 hH225 (seg_sub 0 rfl) (CellsAt.one rfl) ?_)
                refine s_eff (o_storeN (vs := [v_H, v218]) (c' := #[v_H, v218]) ti86 e193_8 rfl rfl rfl (by intro u hu; simp only [List.mem_cons, List.not_mem_nil, or_false] at hu; rcases hu with rfl | rfl <;> first | rfl | exact h_H.one | exact ho220.one) (by simp) (by kernel_rfl) (hH225.front 3 rfl) fun w227 hH228 => ?_)
                refine s_op (o_assign (v := (.int .i64 10)) rfl ?_)
                refine s_nil ?_
                refine t_norm (hK226 _ _ ?_)
                refine wp_ret ?_
                refine c_retC2 Try.results98 e193_8 (run_loadVarN (cs := [v_H, v218]) Try.underlying86 rfl ti86 hH228 (seg_sub 0 rfl) (CellsAt.one rfl)) (x := (.int .i64 10)) rfl ?_
                have hc3_ : ¬ (0 ≤ findC H owner key ∧ (((H[(findC H owner key).toNat]?).map (·.wr)).getD false = true ∨ write = false)) := fun g_ => h43 g_.1
                have hc4_ : ¬ (freeR H ⟨key, write, owner⟩ = true ∧ (0 ≤ findC H owner key ∨ (L.filter (keyIs key)).length = 0)) := fun g_ => g_.2.elim (fun g2_ => h43 g2_) (fun g2_ => h176 (by omega))
                have hq_ : (askR H L owner key write) = ((H, insAt L pl.toNat ⟨key, write, owner⟩), 10) := askR_line h10 h23 hc3_ hc4_ (by rw [placeR_no h43]; exact hp0 h43)
                have q229 : (askR H L owner key write).1.1 = H := by rw [hq_]
                have q230 : (askR H L owner key write).1.2 = (insAt L pl.toNat (Plc.mk key write owner)) := by rw [hq_]
                have q231 : (askR H L owner key write).2 = 10 := by rw [hq_]
                have hH232 : Has E w227 [s_H, s219, R] := (((hH228.front 6 rfl).front 3 rfl).front 5 rfl).first 3 rfl
                exact ⟨_, _, _, _, by rw [q231], (by rw [q229]; exact h_H), (by rw [q230]; exact ho220), hH232⟩
          · -- not: (freeR H (Plc.mk key write owner))
            refine s_off (b' := false) 68 rfl (congrArg Value.bool h175) rfl ?_
            refine s_off (b' := false) 68 rfl (congrArg Value.bool h175) rfl ?_
            refine s_off (b' := false) 68 rfl (congrArg Value.bool h175) rfl ?_
            refine s_offu 71 rfl rfl ?_
            refine s_offu 71 rfl rfl ?_
            refine s_off (b' := false) 68 rfl (congrArg Value.bool h175) rfl ?_
            refine s_op (o_pick_f (u := (.bool false)) ((rfl : _ = _).trans (congrArg Value.bool h175)) rfl ?_)
            refine s_nil ?_
            refine t_norm (hK171 _ _ ?_)
            refine c_false rfl rfl ?_
            refine wp_skip ?_
            refine t_norm (hK170 _ _ ?_)
            refine wp_seq_k fun K233 hK233 => ?_
            refine c_region ?_
            refine s_op (o_fieldAddr (k := 1) (fun _ => by kernel_rfl) e154_4 ?_)
            refine s_op (o_load1 (v := v_L) Try.underlying84 rfl rfl hH173 (seg_sub 2 rfl) (CellsAt.one rfl) ?_)
            refine s_op (o_lenS Try.underlying84 rfl h_L.sl ?_)
            refine s_op (o_assign (v := (.int .i64 ((L.length : Nat) : Int))) rfl ?_)
            refine s_nil ?_
            refine t_norm (hK233 _ _ ?_)
            refine wp_seq_k fun K234 hK234 => ?_
            refine wp_seq_k fun K235 hK235 => ?_
            refine c_region ?_
            refine s_op (o_fieldAddr (k := 1) (fun _ => by kernel_rfl) e154_4 ?_)
            refine s_op (o_load1 (v := v_L) Try.underlying84 rfl rfl hH173 (seg_sub 2 rfl) (CellsAt.one rfl) ?_)
            refine s_op (o_lenS Try.underlying84 rfl h_L.sl ?_)
            refine s_op (o_sub (a := ((L.length : Nat) : Int)) (b := 1) rfl rfl (w64 (by omega) (by omega)) ?_)
            refine s_op (o_assign (v := (.int .i64 (((L.length : Nat) : Int) - 1))) rfl ?_)
            refine s_nil ?_
            refine t_norm (hK235 _ _ ?_)
            refine wp_block ?_
            have hk_ : k = L.length := by omega
            rw [hk_, List.take_length] at hln
            let I237 : Nat → (Nat → Value) → World → Prop := fun n__ r__ w__ => ∃ (ii : Int) (pl : Int), n__ = (ii + 1).toNat ∧ Has E w__ [[Hp.one b32 (.cells #[(.int .i64 owner), (S key), (.bool write)] 183 (0, 0))], [Hp.one b5 (.cells #[(.slice none 0 0), (.slice none 0 0)] 86 (0, 0))], [Hp.one b2 (.cells #[v_H, v_L] 86 (0, 0))], s_H, s_L, R] ∧ (-1 ≤ ii ∧ ii < (L.length : Int)) ∧ (pl = plF (lateC H key) L (ii + 1).toNat) ∧ (¬ 0 ≤ findC H owner key → pl = L.length) ∧ r__ 0 = (.agg #[v_H, v_L]) ∧ r__ 1 = (.int .i64 owner) ∧ r__ 2 = (S key) ∧ r__ 3 = (.bool write) ∧ r__ 4 = (.pointer (some ⟨b2, 0, none⟩)) ∧ r__ 8 = (.pointer (some ⟨b5, 0, none⟩)) ∧ r__ 9 = (.int .i64 0) ∧ r__ 10 = (.pointer (some ⟨b32, 0, none⟩)) ∧ r__ 11 = (.int .i64 (findC H owner key)) ∧ r__ 12 = (.int .i64 ln) ∧ r__ 13 = (.int .i64 (k : Int)) ∧ r__ 14 = (.int .i64 pl) ∧ r__ 15 = (.int .i64 ii) ∧ r__ 17 = (.bool (decide (owner < 0))) ∧ r__ 22 = (.bool (decide (0 ≤ (idxG (ownIs owner) L)))) ∧ r__ 46 = (.bool false) ∧ r__ 52 = (.bool (decide ((k : Int) < ((L.length : Nat) : Int)))) ∧ r__ 75 = (.bool false)
            refine c_loop I237 _ ⟨((L.length : Int) - 1), (L.length : Int), rfl, hH173, ⟨by omega, by omega⟩, (by rw [show ((L.length : Int) - 1 + 1).toNat = L.length from by omega, plF_len]), fun _ => rfl, e154_0, e154_1, e154_2, e154_3, e154_4, e154_8, e154_9, e154_10, e154_11, e154_12, e154_13, rfl, rfl, e154_17, e154_22, e154_46, rfl, rfl⟩ ?_
            rintro n_ r240 w238 ⟨ii, pl, rfl, hH239, hii, hpl, hp0, e236_0, e236_1, e236_2, e236_3, e236_4, e236_8, e236_9, e236_10, e236_11, e236_12, e236_13, e236_14, e236_15, e236_17, e236_22, e236_46, e236_52, e236_75⟩
            obtain ⟨hii1_, hii2_⟩ := hii
            have hpr_ := plF_le (lateC H key) L (ii + 1).toNat (by omega)
            refine wp_seq_k fun K241 hK241 => ?_
            refine wp_seq_k fun K242 hK242 => ?_
            refine c_region ?_
            refine s_op (o_move (v := (.int .i64 ii)) e236_15 ?_)
            refine s_op (o_geq (a := ii) (b := 0) rfl rfl ?_)
            refine s_op (o_move (v := (.bool (decide (0 ≤ ii)))) rfl ?_)
            by_cases h243 : 0 ≤ ii
            · -- 0 ≤ ii
              refine s_on 88 rfl (congrArg Value.bool (decide_eq_true h243)) (o_move (v := (.int .i64 (findC H owner key))) e236_11 ?_)
              refine s_on 88 rfl (congrArg Value.bool (decide_eq_true h243)) (o_geq (a := (findC H owner key)) (b := 0) rfl rfl ?_)
              refine s_op (o_pick_t (u := (.bool (decide (0 ≤ (findC H owner key))))) ((rfl : _ = _).trans (congrArg Value.bool (decide_eq_true h243))) rfl ?_)
              refine s_nil ?_
              refine t_norm (hK242 _ _ ?_)
              refine c_false rfl (decide_eq_false h43) ?_
              refine wp_exit ?_
              refine t_exit (t_exit (x_in (?_)))
              refine t_norm (hK234 _ _ ?_)
              refine wp_seq_k fun K244 hK244 => ?_
              refine c_region ?_
              refine s_op (o_fieldAddr (k := 1) (fun _ => by kernel_rfl) e236_4 ?_)
              refine s_op (o_load1 (v := v_L) Try.underlying84 rfl rfl hH239 (seg_sub 2 rfl) (CellsAt.one rfl) ?_)
              refine s_op (o_move (v := (.int .i64 pl)) e236_14 ?_)
              refine s_op (o_loadN (cs := [(.int .i64 owner), (S key), (.bool write)]) Try.underlying183 rfl ti183 e236_10 hH239 (seg_sub 0 rfl) (CellsAt.one rfl) ?_)
              refine s_op (o_callf (vs := #[v_L, (.int .i64 pl), (.agg #[(.int .i64 owner), (S key), (.bool write)])]) ca139 rfl (args3 rfl rfl rfl) (rwith_c (l := L) (ix := pl) (c := (Plc.mk key write owner)) hH239.all (h_L.sl.mono (seg_sub 4 rfl)) (by first | omega | (simp only []; omega) | (simp; done) | (simp; omega)) (by first | omega | (simp only []; omega) | (simp; done) | (simp; omega))) ?_)
              rintro _ w250 ⟨v245, s246, rfl, ho247, hX248⟩
              refine ⟨_, rfl, ?_⟩
              have hH249 : Has E w250 [s246, [Hp.one b32 (.cells #[(.int .i64 owner), (S key), (.bool write)] 183 (0, 0))], [Hp.one b5 (.cells #[(.slice none 0 0), (.slice none 0 0)] 86 (0, 0))], [Hp.one b2 (.cells #[v_H, v_L] 86 (0, 0))], s_H, s_L, R] := hX248.of_all1
              refine s_op (o_fieldAddr (k := 1) (fun _ => by kernel_rfl) e236_4 ?_)
              refine s_eff (o_store1 (c' := #[v_H, v245]) ti84 rfl rfl ho247.one (by simp) rfl (hH249.front 3 rfl) fun w251 hH252 => ?_)
              refine s_nil ?_
              refine t_norm (hK244 _ _ ?_)
              refine wp_seq_k fun K253 hK253 => ?_
              refine c_region ?_
              refine s_op (o_loadN (cs := [v_H, v245]) Try.underlying86 rfl ti86 e236_4 hH252 (seg_sub 0 rfl) (CellsAt.one rfl) ?_)
              refine s_eff (o_storeN (vs := [v_H, v245]) (c' := #[v_H, v245]) ti86 e236_8 rfl rfl rfl (by intro u hu; simp only [List.mem_cons, List.not_mem_nil, or_false] at hu; rcases hu with rfl | rfl <;> first | rfl | exact h_H.one | exact ho247.one) (by simp) (by kernel_rfl) (hH252.front 3 rfl) fun w254 hH255 => ?_)
              refine s_op (o_assign (v := (.int .i64 10)) rfl ?_)
              refine s_nil ?_
              refine t_norm (hK253 _ _ ?_)
              refine wp_ret ?_
              refine c_retC2 Try.results98 e236_8 (run_loadVarN (cs := [v_H, v245]) Try.underlying86 rfl ti86 hH255 (seg_sub 0 rfl) (CellsAt.one rfl)) (x := (.int .i64 10)) rfl ?_
              have hc3_ : ¬ (0 ≤ findC H owner key ∧ (((H[(findC H owner key).toNat]?).map (·.wr)).getD false = true ∨ write = false)) := fun g_ => h43 g_.1
              have hc4_ : ¬ (freeR H ⟨key, write, owner⟩ = true ∧ (0 ≤ findC H owner key ∨ (L.filter (keyIs key)).length = 0)) := fun g_ => absurd g_.1 (by rw [h175]; decide)
              have hq_ : (askR H L owner key write) = ((H, insAt L pl.toNat ⟨key, write, owner⟩), 10) := askR_line h10 h23 hc3_ hc4_ (by rw [placeR_no h43]; exact hp0 h43)
              have q256 : (askR H L owner key write).1.1 = H := by rw [hq_]
              have q257 : (askR H L owner key write).1.2 = (insAt L pl.toNat (Plc.mk key write owner)) := by rw [hq_]
              have q258 : (askR H L owner key write).2 = 10 := by rw [hq_]
              have hH259 : Has E w254 [s_H, s246, R] := (((hH255.front 6 rfl).front 3 rfl).front 5 rfl).first 3 rfl
              exact ⟨_, _, _, _, by rw [q258], (by rw [q256]; exact h_H), (by rw [q257]; exact ho247), hH259⟩
            · -- not: 0 ≤ ii
              refine s_off (b' := false) 88 rfl (congrArg Value.bool (decide_eq_false h243)) rfl ?_
              refine s_off (b' := false) 88 rfl (congrArg Value.bool (decide_eq_false h243)) rfl ?_
              refine s_op (o_pick_f (u := (.bool false)) ((rfl : _ = _).trans (congrArg Value.bool (decide_eq_false h243))) rfl ?_)
              refine s_nil ?_
              refine t_norm (hK242 _ _ ?_)
              refine c_false rfl rfl ?_
              refine wp_exit ?_
              refine t_exit (t_exit (x_in (?_)))
              refine t_norm (hK234 _ _ ?_)
              refine wp_seq_k fun K260 hK260 => ?_
              refine c_region ?_
              refine s_op (o_fieldAddr (k := 1) (fun _ => by kernel_rfl) e236_4 ?_)
              refine s_op (o_load1 (v := v_L) Try.underlying84 rfl rfl hH239 (seg_sub 2 rfl) (CellsAt.one rfl) ?_)
              refine s_op (o_move (v := (.int .i64 pl)) e236_14 ?_)
              refine s_op (o_loadN (cs := [(.int .i64 owner), (S key), (.bool write)]) Try.underlying183 rfl ti183 e236_10 hH239 (seg_sub 0 rfl) (CellsAt.one rfl) ?_)
              refine s_op (o_callf (vs := #[v_L, (.int .i64 pl), (.agg #[(.int .i64 owner), (S key), (.bool write)])]) ca139 rfl (args3 rfl rfl rfl) (rwith_c (l := L) (ix := pl) (c := (Plc.mk key write owner)) hH239.all (h_L.sl.mono (seg_sub 4 rfl)) (by first | omega | (simp only []; omega) | (simp; done) | (simp; omega)) (by first | omega | (simp only []; omega) | (simp; done) | (simp; omega))) ?_)
              rintro _ w266 ⟨v261, s262, rfl, ho263, hX264⟩
              refine ⟨_, rfl, ?_⟩
              have hH265 : Has E w266 [s262, [Hp.one b32 (.cells #[(.int .i64 owner), (S key), (.bool write)] 183 (0, 0))], [Hp.one b5 (.cells #[(.slice none 0 0), (.slice none 0 0)] 86 (0, 0))], [Hp.one b2 (.cells #[v_H, v_L] 86 (0, 0))], s_H, s_L, R] := hX264.of_all1
              refine s_op (o_fieldAddr (k := 1) (fun _ => by kernel_rfl) e236_4 ?_)
              refine s_eff (o_store1 (c' := #[v_H, v261]) ti84 rfl rfl ho263.one (by simp) rfl (hH265.front 3 rfl) fun w267 hH268 => ?_)
              refine s_nil ?_
              refine t_norm (hK260 _ _ ?_)
              refine wp_seq_k fun K269 hK269 => ?_
              refine c_region ?_
              refine s_op (o_loadN (cs := [v_H, v261]) Try.underlying86 rfl ti86 e236_4 hH268 (seg_sub 0 rfl) (CellsAt.one rfl) ?_)
              refine s_eff (o_storeN (vs := [v_H, v261]) (c' := #[v_H, v261]) ti86 e236_8 rfl rfl rfl (by intro u hu; simp only [List.mem_cons, List.not_mem_nil, or_false] at hu; rcases hu with rfl | rfl <;> first | rfl | exact h_H.one | exact ho263.one) (by simp) (by kernel_rfl) (hH268.front 3 rfl) fun w270 hH271 => ?_)
              refine s_op (o_assign (v := (.int .i64 10)) rfl ?_)
              refine s_nil ?_
              refine t_norm (hK269 _ _ ?_)
              refine wp_ret ?_
              refine c_retC2 Try.results98 e236_8 (run_loadVarN (cs := [v_H, v261]) Try.underlying86 rfl ti86 hH271 (seg_sub 0 rfl) (CellsAt.one rfl)) (x := (.int .i64 10)) rfl ?_
              have hc3_ : ¬ (0 ≤ findC H owner key ∧ (((H[(findC H owner key).toNat]?).map (·.wr)).getD false = true ∨ write = false)) := fun g_ => h43 g_.1
              have hc4_ : ¬ (freeR H ⟨key, write, owner⟩ = true ∧ (0 ≤ findC H owner key ∨ (L.filter (keyIs key)).length = 0)) := fun g_ => absurd g_.1 (by rw [h175]; decide)
              have hq_ : (askR H L owner key write) = ((H, insAt L pl.toNat ⟨key, write, owner⟩), 10) := askR_line h10 h23 hc3_ hc4_ (by rw [placeR_no h43]; exact hp0 h43)
              have q272 : (askR H L owner key write).1.1 = H := by rw [hq_]
              have q273 : (askR H L owner key write).1.2 = (insAt L pl.toNat (Plc.mk key write owner)) := by rw [hq_]
              have q274 : (askR H L owner key write).2 = 10 := by rw [hq_]
              have hH275 : Has E w270 [s_H, s262, R] := (((hH271.front 6 rfl).front 3 rfl).front 5 rfl).first 3 rfl
              exact ⟨_, _, _, _, by rw [q274], (by rw [q272]; exact h_H), (by rw [q273]; exact ho263), hH275⟩
end Go.Q
namespace Go.Q
open Go.Proofs
set_option linter.unusedVariables false
set_option maxRecDepth 100000
attribute [local irreducible] wpList OK Code.wp
set_option maxHeartbeats 4000000 in
theorem rholds_c {E w : World} {R : List Hp} {v_H : Value} {H : List Plc} {v_L : Value} {L : List Plc} {owner : Int}  (hH : Has E w [R]) (h_H : Sl R 3 v_H H.length (H.flatMap rcC)) (h_L : Sl R 3 v_L L.length (L.flatMap rcC)) (hn : H.length ≤ 1000) :
    Calls Try.prog 100 #[(.agg #[v_H, v_L]), (.int .i64 owner)] w fun e w' => ∃ (v1' : Value) (s2' : List Hp), e = .returned v1' ∧ (Own 183 3 v1' (holdsR H owner).length ((holdsR H owner).flatMap rcC) s2') ∧ Has E w' [s2', R] := by
  have hkl_ := keysR_len H
  refine c_enter (args := [(.agg #[v_H, v_L]), (.int .i64 owner)]) Try.func100 rfl Try.ntmps100 (by simp) ?_
  refine wp_seq_k fun K1 hK1 => ?_
  refine c_region ?_
  refine s_op (o_box (cs := #[v_H, v_L]) rfl rfl hH fun b2 w3 hH4 => ?_)
  refine s_op (o_assign (v := (.slice none 0 0)) rfl ?_)
  refine s_nil ?_
  refine t_norm (hK1 _ _ ?_)
  refine wp_seq_k fun K5 hK5 => ?_
  refine c_region ?_
  refine s_op (o_assign (v := (.slice none 0 0)) rfl ?_)
  refine s_nil ?_
  refine t_norm (hK5 _ _ ?_)
  refine wp_seq_k fun K6 hK6 => ?_
  refine c_region ?_
  refine s_op (o_fieldAddr (k := 0) (fun _ => by kernel_rfl) rfl ?_)
  refine s_op (o_load1 (v := v_H) Try.underlying84 rfl rfl hH4 (seg_sub 0 rfl) (CellsAt.one rfl) ?_)
  refine s_op (o_callf (vs := #[v_H]) ca141 rfl (args1 rfl) (rkeys_c (l := H) hH4.all (h_H.mono (seg_sub 1 rfl)) (by first | omega | (simp only []; omega) | (simp; done) | (simp; omega))) ?_)
  rintro _ w12 ⟨v7, s8, rfl, ho9, hX10⟩
  refine ⟨_, rfl, ?_⟩
  have hH11 : Has E w12 [s8, [Hp.one b2 (.cells #[v_H, v_L] 86 (0, 0))], R] := hX10.of_all1
  refine s_op (o_assign (v := v7) rfl ?_)
  refine s_nil ?_
  refine t_norm (hK6 _ _ ?_)
  refine wp_seq_k fun K13 hK13 => ?_
  refine wp_seq_k fun K14 hK14 => ?_
  refine c_region ?_
  refine s_op (o_assign (v := (.int .i64 0)) rfl ?_)
  refine s_nil ?_
  refine t_norm (hK14 _ _ ?_)
  refine wp_block ?_
  let I16 : Nat → (Nat → Value) → World → Prop := fun n__ r__ w__ => ∃ (k : Nat) (vo : Value) (so : List Hp) (out : List Plc), n__ = (keysR H).length - k ∧ Has E w__ [so, s8, [Hp.one b2 (.cells #[v_H, v_L] 86 (0, 0))], R] ∧ (k ≤ (keysR H).length) ∧ (Own 183 3 vo out.length (out.flatMap rcC) so) ∧ (out.length ≤ k) ∧ (out = ((keysR H).take k).filterMap (holdK H owner)) ∧ r__ 0 = (.agg #[v_H, v_L]) ∧ r__ 1 = (.int .i64 owner) ∧ r__ 2 = (.pointer (some ⟨b2, 0, none⟩)) ∧ r__ 4 = (.slice none 0 0) ∧ r__ 5 = vo ∧ r__ 6 = v7 ∧ r__ 7 = (.int .i64 (k : Int))
  have hH17 : Has E w12 [[], s8, [Hp.one b2 (.cells #[v_H, v_L] 86 (0, 0))], R] := (Has.nil (((hH11.front 2 rfl).front 2 rfl).front 2 rfl)).first 4 rfl
  refine c_loop I16 _ ⟨0, (.slice none 0 0), [], [], rfl, hH17, Nat.zero_le _, Own.nil 183 3, Nat.le_refl _, rfl, rfl, rfl, rfl, rfl, rfl, rfl, rfl⟩ ?_
  rintro n_ r20 w18 ⟨k, vo, so, out, rfl, hH19, hk, hoo, hol, hf, e15_0, e15_1, e15_2, e15_4, e15_5, e15_6, e15_7⟩
  refine wp_seq_k fun K21 hK21 => ?_
  refine wp_seq_k fun K22 hK22 => ?_
  refine c_region ?_
  refine s_op (o_move (v := (.int .i64 (k : Int))) e15_7 ?_)
  refine s_op (o_move (v := v7) e15_6 ?_)
  refine s_op (o_lenS Try.underlying53 rfl ho9.sl ?_)
  refine s_op (o_lss (a := (k : Int)) (b := (((keysR H).length : Nat) : Int)) rfl rfl ?_)
  refine s_nil ?_
  refine t_norm (hK22 _ _ ?_)
  refine c_cond rfl (fun h23 => ?_) (fun h23 => ?_)
  · -- (k : Int) < (((keysR H).length : Nat) : Int)
    refine wp_skip ?_
    refine t_norm (hK21 _ _ ?_)
    refine wp_seq_k fun K24 hK24 => ?_
    refine wp_block ?_
    refine wp_seq_k fun K25 hK25 => ?_
    refine Rest.region mixed (by kernel_rfl) ?_
    have hH26 : Has E { w18 with drawn := w18.drawn + 1 } [so, s8, [Hp.one b2 (.cells #[v_H, v_L] 86 (0, 0))], R] := Has0.drew hH19 _
    refine Rest.phaseA (fun w_ => Has E w_ [s8, [Hp.one b2 (.cells #[v_H, v_L] 86 (0, 0))]]) 0 7 7 rfl (by decide) (by kernel_rfl) ?_
    refine a_op 0 rfl (by kernel_rfl) (fun w_ h_ => o_fieldAddr (k := 0) (fun _ => by kernel_rfl) e15_2 ⟨rfl, rfl⟩) ?_
    refine a_op 1 rfl (by kernel_rfl) (fun w_ h_ => o_load1 (v := v_H) Try.underlying84 rfl rfl h_ (seg_sub 1 rfl) (CellsAt.one rfl) ⟨rfl, rfl⟩) ?_
    refine a_op 2 rfl (by kernel_rfl) (fun w_ h_ => o_move (v := (.int .i64 owner)) e15_1 ⟨rfl, rfl⟩) ?_
    refine a_op 3 rfl (by kernel_rfl) (fun w_ h_ => o_move (v := v7) e15_6 ⟨rfl, rfl⟩) ?_
    refine a_op 4 rfl (by kernel_rfl) (fun w_ h_ => o_move (v := (.int .i64 (k : Int))) e15_7 ⟨rfl, rfl⟩) ?_
    obtain ⟨x30, hx31⟩ : ∃ x_, (keysR H)[((k : Int)).toNat]? = some x_ := get_some (by omega)
    obtain ⟨b27, o28, hc29, ho32⟩ := ix_ex1 Try.underlying53 ti9 ho9.sl (by omega) hx31
    refine a_op 5 rfl (by kernel_rfl) (fun w_ h_ => ho32 rfl rfl ⟨rfl, rfl⟩) ?_
    refine a_op 6 rfl (by kernel_rfl) (fun w_ h_ => o_load1 (v := (S x30)) Try.underlying9 rfl rfl h_ (seg_sub 0 rfl) hc29 ⟨rfl, rfl⟩) ?_
    have hH33 : Has E { w18 with drawn := w18.drawn + 1 } [s8, [Hp.one b2 (.cells #[v_H, v_L] 86 (0, 0))]] := ((hH26.front 2 rfl).front 2 rfl).first 2 rfl
    refine a_done (by kernel_rfl) hH33 ?_
    refine r_op 7 rfl (by kernel_rfl) (o_callf (vs := #[v_H, (.int .i64 owner), (S x30)]) ca136 rfl (args3 rfl rfl rfl) (rfind_c (l := H) (owner := owner) (key := x30) hH26.all (h_H.mono (seg_sub 3 rfl))) ?_)
    rintro _ w36 ⟨rfl, hX34⟩
    refine ⟨_, rfl, ?_⟩
    have hH35 := hX34.of_all
    have := findC_lt H owner x30
    refine r_op 8 rfl (by kernel_rfl) (o_assign (v := (.int .i64 (findC H owner x30))) rfl ?_)
    refine Rest.done (by kernel_rfl) ?_
    refine t_norm (hK25 _ _ ?_)
    refine wp_seq_k fun K37 hK37 => ?_
    refine c_region ?_
    refine s_op (o_move (v := (.int .i64 (findC H owner x30))) rfl ?_)
    refine s_op (o_geq (a := (findC H owner x30)) (b := 0) rfl rfl ?_)
    refine s_nil ?_
    refine t_norm (hK37 _ _ ?_)
    refine c_cond rfl (fun h38 => ?_) (fun h38 => ?_)
    · -- 0 ≤ (findC H owner x30)
      refine c_region ?_
      refine s_op (o_move (v := vo) e15_5 ?_)
      refine s_op (o_fieldAddr (k := 0) (fun _ => by kernel_rfl) e15_2 ?_)
      refine s_op (o_load1 (v := v_H) Try.underlying84 rfl rfl hH35 (seg_sub 2 rfl) (CellsAt.one rfl) ?_)
      refine s_op (o_move (v := (.int .i64 (findC H owner x30))) rfl ?_)
      obtain ⟨x42, hx43⟩ : ∃ x_, H[((findC H owner x30)).toNat]? = some x_ := get_some (by omega)
      refine s_op (o_indexF rcC_len Try.underlying84 ti183 rfl h_H rfl rfl (by omega) hx43 fun b39 o40 hc41 => ?_)
      refine s_op (o_loadN (cs := [(.int .i64 x42.own), (S x42.key), (.bool x42.wr)]) Try.underlying183 rfl ti183 rfl hH35 (seg_sub 3 rfl) hc41 ?_)
      refine s_op (o_buildSlice (ps := #[(0, (.agg #[(.int .i64 x42.own), (S x42.key), (.bool x42.wr)]))]) (cells := #[(.int .i64 x42.own), (S x42.key), (.bool x42.wr)]) Try.underlying84 ti183 (by decide) (parts1 rfl) (by kernel_rfl) hH35 fun b44 w45 hH46 => ?_)
      refine s_op (o_append Try.underlying84 ti183 rfl (by decide) rfl hoo rfl (sl_litF (f := rcC) (l := [x42]) rcC_len rfl rfl (by simp)) (hH46.front 1 rfl) (seg_sub 0 rfl) (one_rcC _) (by simp; omega) (by simp; omega) fun v47 s48 w50 ho49 hH51 => ?_)
      have ho49 : Own 183 3 v47 (out ++ [x42]).length ((out ++ [x42]).flatMap rcC) s48 := ho49.appF
      refine s_op (o_assign (v := v47) rfl ?_)
      refine s_nil ?_
      refine b_norm ?_
      refine t_norm (hK24 _ _ ?_)
      refine c_region ?_
      refine s_op (o_move (v := (.int .i64 (k : Int))) e15_7 ?_)
      refine s_op (o_add (a := (k : Int)) (b := 1) rfl rfl (w64 (by omega) (by omega)) ?_)
      refine s_op (o_assign (v := (.int .i64 ((k : Int) + 1))) rfl ?_)
      refine s_nil ?_
      have hH52 : Has E w50 [s48, s8, [Hp.one b2 (.cells #[v_H, v_L] 86 (0, 0))], R] := ((((hH51.front 4 rfl).front 4 rfl).front 4 rfl).front 3 rfl).first 4 rfl
      refine t_norm ⟨(keysR H).length - (k + 1), _, rfl, ?_, ?_⟩
      · omega
      · exact ⟨(k + 1), v47, s48, (out ++ [x42]), rfl, hH52, (by omega), (ho49), (by first | omega | (simp only [List.length_append, List.length_cons, List.length_nil]; omega)), (hk_yes hf (show (keysR H)[k]? = some _ from hx31) h38 (show H[(findC H owner x30).toNat]? = some _ from hx43)), e15_0, e15_1, e15_2, e15_4, rfl, e15_6, rfl⟩
    · -- not: 0 ≤ (findC H owner x30)
      refine wp_skip ?_
      refine b_norm ?_
      refine t_norm (hK24 _ _ ?_)
      refine c_region ?_
      refine s_op (o_move (v := (.int .i64 (k : Int))) e15_7 ?_)
      refine s_op (o_add (a := (k : Int)) (b := 1) rfl rfl (w64 (by omega) (by omega)) ?_)
      refine s_op (o_assign (v := (.int .i64 ((k : Int) + 1))) rfl ?_)
      refine s_nil ?_
      refine t_norm ⟨(keysR H).length - (k + 1), _, rfl, ?_, ?_⟩
      · omega
      · exact ⟨(k + 1), vo, so, out, rfl, hH35, (by omega), (hoo), (by first | omega | (simp only [List.length_append, List.length_cons, List.length_nil]; omega)), (hk_no hf (show (keysR H)[k]? = some _ from hx31) h38), e15_0, e15_1, e15_2, e15_4, e15_5, e15_6, rfl⟩
  · -- not: (k : Int) < (((keysR H).length : Nat) : Int)
    refine wp_exit ?_
    refine t_exit (t_exit (x_in (?_)))
    refine t_norm (hK13 _ _ ?_)
    refine wp_seq_k fun K53 hK53 => ?_
    refine c_region ?_
    refine s_op (o_move (v := vo) e15_5 ?_)
    refine s_op (o_assign (v := vo) rfl ?_)
    refine s_nil ?_
    refine t_norm (hK53 _ _ ?_)
    refine wp_ret ?_
    refine c_ret1 Try.results100  (v := vo) rfl ?_
    have q54 : (holdsR H owner) = out := by (have he_ : k = (keysR H).length := by omega); rw [holdsR_eq, hf, he_, List.take_length]
    have hH55 : Has E w18 [so, R] := ((hH19.front 3 rfl).front 1 rfl).first 2 rfl
    exact ⟨_, _, rfl, (by rw [q54]; exact hoo), hH55⟩
end Go.Q
namespace Go.Q
open Go.Proofs
set_option linter.unusedVariables false
set_option maxRecDepth 100000
attribute [local irreducible] wpList OK Code.wp
set_option maxHeartbeats 4000000 in
theorem rleave_c {E w : World} {R : List Hp} {v_H : Value} {H : List Plc} {v_L : Value} {L : List Plc} {v_ow : Value} {ow : List Int} {all : Bool}  (hH : Has E w [R]) (h_H : Sl R 3 v_H H.length (H.flatMap rcC)) (h_L : Sl R 3 v_L L.length (L.flatMap rcC)) (h_ow : Sl R 1 v_ow ow.length (ow.map iV)) (hn : H.length ≤ 1000 ∧ L.length ≤ 1000) :
    Calls Try.prog 99 #[(.agg #[v_H, v_L]), v_ow, (.bool all)] w fun e w' => ∃ (v1' : Value) (s2' : List Hp) (v4' : Value) (s5' : List Hp) (v7' : Value) (s8' : List Hp), e = .returned (.tuple #[(.agg #[v1', v4']), v7']) ∧ (Own 183 3 v1' ((leaveR all ow H L).1.1).length (((leaveR all ow H L).1.1).flatMap rcC) s2') ∧ (Own 183 3 v4' ((leaveR all ow H L).1.2).length (((leaveR all ow H L).1.2).flatMap rcC) s5') ∧ (Own 3 1 v7' ((leaveR all ow H L).2).length (((leaveR all ow H L).2).map iV) s8') ∧ Has E w' [s2', s5', s8', R] := by
  obtain ⟨hn1_, hn2_⟩ := hn
  refine c_enter (args := [(.agg #[v_H, v_L]), v_ow, (.bool all)]) Try.func99 rfl Try.ntmps99 (by simp) ?_
  refine wp_seq_k fun K1 hK1 => ?_
  refine c_region ?_
  refine s_op (o_box (cs := #[v_H, v_L]) rfl rfl hH fun b2 w3 hH4 => ?_)
  refine s_op (o_alloc (cs := #[(.slice none 0 0), (.slice none 0 0)]) ti86 rfl hH4 fun b5 w6 hH7 => ?_)
  refine s_op (o_assign (v := (.slice none 0 0)) rfl ?_)
  refine s_nil ?_
  refine t_norm (hK1 _ _ ?_)
  refine wp_seq_k fun K8 hK8 => ?_
  refine c_region ?_
  refine s_op (o_sight (v := (.agg #[(.slice none 0 0), (.slice none 0 0)])) (fun _ => by kernel_rfl) ?_)
  refine s_op (o_alloc (cs := #[(.slice none 0 0), (.slice none 0 0)]) ti86 rfl hH7 fun b9 w10 hH11 => ?_)
  refine s_eff (o_storeN (vs := [(.slice none 0 0), (.slice none 0 0)]) (c' := #[(.slice none 0 0), (.slice none 0 0)]) ti86 rfl rfl rfl rfl (by intro u hu; simp only [List.mem_cons, List.not_mem_nil, or_false] at hu; rcases hu with rfl | rfl <;> first | rfl) (by simp) (by kernel_rfl) (hH11.front 0 rfl) fun w12 hH13 => ?_)
  refine s_nil ?_
  refine t_norm (hK8 _ _ ?_)
  refine wp_seq_k fun K14 hK14 => ?_
  refine wp_seq_k fun K15 hK15 => ?_
  refine c_region ?_
  refine s_op (o_assign (v := (.int .i64 0)) rfl ?_)
  refine s_nil ?_
  refine t_norm (hK15 _ _ ?_)
  refine wp_block ?_
  let I17 : Nat → (Nat → Value) → World → Prop := fun n__ r__ w__ => ∃ (k : Nat) (v1 : Value) (s1 : List Hp) (l1 : List Plc), n__ = H.length - k ∧ Has E w__ [s1, [Hp.one b9 (.cells #[v1, (.slice none 0 0)] 86 (0, 0))], [Hp.one b5 (.cells #[(.slice none 0 0), (.slice none 0 0)] 86 (0, 0))], [Hp.one b2 (.cells #[v_H, v_L] 86 (0, 0))], R] ∧ (k ≤ H.length) ∧ (Own 183 3 v1 l1.length (l1.flatMap rcC) s1) ∧ (l1.length ≤ k) ∧ (l1 = stayH all ow (H.take k)) ∧ r__ 0 = (.agg #[v_H, v_L]) ∧ r__ 1 = v_ow ∧ r__ 2 = (.bool all) ∧ r__ 3 = (.pointer (some ⟨b2, 0, none⟩)) ∧ r__ 6 = (.pointer (some ⟨b5, 0, none⟩)) ∧ r__ 7 = (.slice none 0 0) ∧ r__ 8 = (.pointer (some ⟨b9, 0, none⟩)) ∧ r__ 9 = (.int .i64 (k : Int))
  have hH18 : Has E w12 [[], [Hp.one b9 (.cells #[(.slice none 0 0), (.slice none 0 0)] 86 (0, 0))], [Hp.one b5 (.cells #[(.slice none 0 0), (.slice none 0 0)] 86 (0, 0))], [Hp.one b2 (.cells #[v_H, v_L] 86 (0, 0))], R] := (Has.nil ((((hH13.front 3 rfl).front 3 rfl).front 3 rfl).front 3 rfl)).first 5 rfl
  refine c_loop I17 _ ⟨0, (.slice none 0 0), [], ([] : List Plc), rfl, hH18, Nat.zero_le _, (Own.nil 183 3), (by simp), (by simp [stayH]), rfl, rfl, rfl, rfl, rfl, rfl, rfl, rfl⟩ ?_
  rintro n_ r21 w19 ⟨k, v1, s1, l1, rfl, hH20, hk, ho1, hl1, hf1, e16_0, e16_1, e16_2, e16_3, e16_6, e16_7, e16_8, e16_9⟩
  refine wp_seq_k fun K22 hK22 => ?_
  refine wp_seq_k fun K23 hK23 => ?_
  refine c_region ?_
  refine s_op (o_move (v := (.int .i64 (k : Int))) e16_9 ?_)
  refine s_op (o_fieldAddr (k := 0) (fun _ => by kernel_rfl) e16_3 ?_)
  refine s_op (o_load1 (v := v_H) Try.underlying84 rfl rfl hH20 (seg_sub 3 rfl) (CellsAt.one rfl) ?_)
  refine s_op (o_lenS Try.underlying84 rfl h_H ?_)
  refine s_op (o_lss (a := (k : Int)) (b := ((H.length : Nat) : Int)) rfl rfl ?_)
  refine s_nil ?_
  refine t_norm (hK23 _ _ ?_)
  refine c_cond rfl (fun h24 => ?_) (fun h24 => ?_)
  · -- (k : Int) < ((H.length : Nat) : Int)
    refine wp_skip ?_
    refine t_norm (hK22 _ _ ?_)
    refine wp_seq_k fun K25 hK25 => ?_
    refine wp_block ?_
    refine wp_seq_k fun K26 hK26 => ?_
    refine c_region ?_
    refine s_op (o_move (v := (.bool all)) e16_2 ?_)
    refine s_op (o_not rfl ?_)
    refine s_op (o_move (v := (.bool (!all))) rfl ?_)
    rcases Bool.eq_false_or_eq_true (!all) with h27 | h27
    · -- !all
      refine s_off (b' := true) 26 rfl (congrArg Value.bool h27) rfl ?_
      refine s_off (b' := true) 26 rfl (congrArg Value.bool h27) rfl ?_
      refine s_off (b' := true) 26 rfl (congrArg Value.bool h27) rfl ?_
      refine s_off (b' := true) 26 rfl (congrArg Value.bool h27) rfl ?_
      refine s_off (b' := true) 26 rfl (congrArg Value.bool h27) rfl ?_
      refine s_off (b' := true) 26 rfl (congrArg Value.bool h27) rfl ?_
      refine s_off (b' := true) 26 rfl (congrArg Value.bool h27) rfl ?_
      refine s_off (b' := true) 26 rfl (congrArg Value.bool h27) rfl ?_
      refine s_off (b' := true) 26 rfl (congrArg Value.bool h27) rfl ?_
      refine s_op (o_pick_t (u := (.bool true)) ((rfl : _ = _).trans (congrArg Value.bool h27)) rfl ?_)
      refine s_nil ?_
      refine t_norm (hK26 _ _ ?_)
      refine c_true rfl rfl ?_
      refine Rest.region mixed (by kernel_rfl) ?_
      have hH28 : Has E { w19 with drawn := w19.drawn + 1 } [s1, [Hp.one b9 (.cells #[v1, (.slice none 0 0)] 86 (0, 0))], [Hp.one b5 (.cells #[(.slice none 0 0), (.slice none 0 0)] 86 (0, 0))], [Hp.one b2 (.cells #[v_H, v_L] 86 (0, 0))], R] := Has0.drew hH20 _
      refine Rest.phaseA (fun w_ => Has E w_ [[Hp.one b9 (.cells #[v1, (.slice none 0 0)] 86 (0, 0))], [Hp.one b2 (.cells #[v_H, v_L] 86 (0, 0))], R]) 0 8 8 rfl (by decide) (by kernel_rfl) ?_
      refine a_op 0 rfl (by kernel_rfl) (fun w_ h_ => o_fieldAddr (k := 0) (fun _ => by kernel_rfl) e16_8 ⟨rfl, rfl⟩) ?_
      refine a_op 1 rfl (by kernel_rfl) (fun w_ h_ => o_load1 (v := v1) Try.underlying84 rfl rfl h_ (seg_sub 0 rfl) (CellsAt.one rfl) ⟨rfl, rfl⟩) ?_
      refine a_op 2 rfl (by kernel_rfl) (fun w_ h_ => o_fieldAddr (k := 0) (fun _ => by kernel_rfl) e16_3 ⟨rfl, rfl⟩) ?_
      refine a_op 3 rfl (by kernel_rfl) (fun w_ h_ => o_load1 (v := v_H) Try.underlying84 rfl rfl h_ (seg_sub 1 rfl) (CellsAt.one rfl) ⟨rfl, rfl⟩) ?_
      refine a_op 4 rfl (by kernel_rfl) (fun w_ h_ => o_move (v := (.int .i64 (k : Int))) e16_9 ⟨rfl, rfl⟩) ?_
      obtain ⟨x32, hx33⟩ : ∃ x_, H[((k : Int)).toNat]? = some x_ := get_some (by omega)
      obtain ⟨b29, o30, hc31, ho34⟩ := ix_exF rcC_len Try.underlying84 ti183 h_H (by omega) hx33
      refine a_op 5 rfl (by kernel_rfl) (fun w_ h_ => ho34 rfl rfl ⟨rfl, rfl⟩) ?_
      refine a_op 6 rfl (by kernel_rfl) (fun w_ h_ => o_loadN (cs := [(.int .i64 x32.own), (S x32.key), (.bool x32.wr)]) Try.underlying183 rfl ti183 rfl h_ (seg_sub 2 rfl) hc31 ⟨rfl, rfl⟩) ?_
      have hH35 : Has E { w19 with drawn := w19.drawn + 1 } [[Hp.one b9 (.cells #[v1, (.slice none 0 0)] 86 (0, 0))], [Hp.one b2 (.cells #[v_H, v_L] 86 (0, 0))], R] := (((hH28.front 4 rfl).front 4 rfl).front 3 rfl).first 3 rfl
      refine a_w 7 rfl (by kernel_rfl) hH35 (o_buildSlice (ps := #[(0, (.agg #[(.int .i64 x32.own), (S x32.key), (.bool x32.wr)]))]) (cells := #[(.int .i64 x32.own), (S x32.key), (.bool x32.wr)]) Try.underlying84 ti183 (by decide) (parts1 rfl) (by kernel_rfl) hH28 fun b36 w37 hH38 => ?_)
      have hH39 : Has E w37 [[Hp.one b9 (.cells #[v1, (.slice none 0 0)] 86 (0, 0))], [Hp.one b2 (.cells #[v_H, v_L] 86 (0, 0))], R] := (((hH38.front 5 rfl).front 5 rfl).front 4 rfl).first 3 rfl
      refine a_done (by kernel_rfl) hH39 ?_
      refine r_op 8 rfl (by kernel_rfl) (o_append Try.underlying84 ti183 rfl (by decide) rfl ho1 rfl (sl_litF (f := rcC) (l := [x32]) rcC_len rfl rfl (by simp)) (hH38.front 1 rfl) (seg_sub 0 rfl) (one_rcC _) (by simp; omega) (by simp; omega) fun v40 s41 w43 ho42 hH44 => ?_)
      have ho42 : Own 183 3 v40 (l1 ++ [x32]).length ((l1 ++ [x32]).flatMap rcC) s41 := ho42.appF
      refine r_op 9 rfl (by kernel_rfl) (o_fieldAddr (k := 0) (fun _ => by kernel_rfl) e16_8 ?_)
      refine r_eff 10 rfl (by kernel_rfl) (o_store1 (c' := #[v40, (.slice none 0 0)]) ti84 rfl rfl ho42.one (by simp) rfl (hH44.front 2 rfl) fun w45 hH46 => ?_)
      refine Rest.done (by kernel_rfl) ?_
      refine b_norm ?_
      refine t_norm (hK25 _ _ ?_)
      refine c_region ?_
      refine s_op (o_move (v := (.int .i64 (k : Int))) e16_9 ?_)
      refine s_op (o_add (a := (k : Int)) (b := 1) rfl rfl (w64 (by omega) (by omega)) ?_)
      refine s_op (o_assign (v := (.int .i64 ((k : Int) + 1))) rfl ?_)
      refine s_nil ?_
      have hH47 : Has E w45 [s41, [Hp.one b9 (.cells #[v40, (.slice none 0 0)] 86 (0, 0))], [Hp.one b5 (.cells #[(.slice none 0 0), (.slice none 0 0)] 86 (0, 0))], [Hp.one b2 (.cells #[v_H, v_L] 86 (0, 0))], R] := (((((hH46.front 5 rfl).front 5 rfl).front 5 rfl).front 3 rfl).front 4 rfl).first 5 rfl
      refine t_norm ⟨H.length - (k + 1), _, rfl, ?_, ?_⟩
      · omega
      · exact ⟨(k + 1), v40, s41, (l1 ++ [x32]), rfl, hH47, (by omega), (ho42), (by first | omega | (simp only [List.length_append, List.length_cons, List.length_nil]; omega)), (stay_keep hf1 (show H[k]? = some _ from hx33) (.inl (by simpa using h27))), e16_0, e16_1, e16_2, e16_3, e16_6, e16_7, e16_8, rfl⟩
    · -- not: !all
      refine s_on 26 rfl (congrArg Value.bool h27) (o_move (v := v_ow) e16_1 ?_)
      refine s_on 26 rfl (congrArg Value.bool h27) (o_fieldAddr (k := 0) (fun _ => by kernel_rfl) e16_3 ?_)
      refine s_on 26 rfl (congrArg Value.bool h27) (o_load1 (v := v_H) Try.underlying84 rfl rfl hH20 (seg_sub 3 rfl) (CellsAt.one rfl) ?_)
      refine s_on 26 rfl (congrArg Value.bool h27) (o_move (v := (.int .i64 (k : Int))) e16_9 ?_)
      obtain ⟨x51, hx52⟩ : ∃ x_, H[((k : Int)).toNat]? = some x_ := get_some (by omega)
      refine s_on 26 rfl (congrArg Value.bool h27) (o_indexF rcC_len Try.underlying84 ti183 rfl h_H rfl rfl (by omega) hx52 fun b48 o49 hc50 => ?_)
      refine s_on 26 rfl (congrArg Value.bool h27) (o_fieldAddr (k := o49) (fun _ => by kernel_rfl) rfl ?_)
      refine s_on 26 rfl (congrArg Value.bool h27) (o_load1 (v := (.int .i64 x51.own)) Try.underlying3 rfl rfl hH20 (seg_sub 4 rfl) (CellsAt.field (k := 0) (ds := [(.int .i64 x51.own)]) hc50 rfl) ?_)
      refine s_on 26 rfl (congrArg Value.bool h27) (o_callf (vs := #[v_ow, (.int .i64 x51.own)]) ca140 rfl (args2 rfl rfl) (rhas_c (l := ow) (n := x51.own) hH20.all (h_ow.mono (seg_sub 4 rfl))) ?_)
      rintro _ w55 ⟨rfl, hX53⟩
      refine ⟨_, rfl, ?_⟩
      have hH54 := hX53.of_all
      refine s_on 26 rfl (congrArg Value.bool h27) (o_not rfl ?_)
      refine s_op (o_pick_f (u := (.bool (!(decide (x51.own ∈ ow))))) ((rfl : _ = _).trans (congrArg Value.bool h27)) rfl ?_)
      refine s_nil ?_
      refine t_norm (hK26 _ _ ?_)
      refine c_condb rfl (fun h56 => ?_) (fun h56 => ?_)
      · -- !(decide (x51.own ∈ ow))
        have h56_n : (decide (x51.own ∈ ow)) = false := by simpa using h56
        refine Rest.region mixed (by kernel_rfl) ?_
        have hH57 : Has E { w55 with drawn := w55.drawn + 1 } [s1, [Hp.one b9 (.cells #[v1, (.slice none 0 0)] 86 (0, 0))], [Hp.one b5 (.cells #[(.slice none 0 0), (.slice none 0 0)] 86 (0, 0))], [Hp.one b2 (.cells #[v_H, v_L] 86 (0, 0))], R] := Has0.drew hH54 _
        refine Rest.phaseA (fun w_ => Has E w_ [[Hp.one b9 (.cells #[v1, (.slice none 0 0)] 86 (0, 0))], [Hp.one b2 (.cells #[v_H, v_L] 86 (0, 0))], R]) 0 8 8 rfl (by decide) (by kernel_rfl) ?_
        refine a_op 0 rfl (by kernel_rfl) (fun w_ h_ => o_fieldAddr (k := 0) (fun _ => by kernel_rfl) e16_8 ⟨rfl, rfl⟩) ?_
        refine a_op 1 rfl (by kernel_rfl) (fun w_ h_ => o_load1 (v := v1) Try.underlying84 rfl rfl h_ (seg_sub 0 rfl) (CellsAt.one rfl) ⟨rfl, rfl⟩) ?_
        refine a_op 2 rfl (by kernel_rfl) (fun w_ h_ => o_fieldAddr (k := 0) (fun _ => by kernel_rfl) e16_3 ⟨rfl, rfl⟩) ?_
        refine a_op 3 rfl (by kernel_rfl) (fun w_ h_ => o_load1 (v := v_H) Try.underlying84 rfl rfl h_ (seg_sub 1 rfl) (CellsAt.one rfl) ⟨rfl, rfl⟩) ?_
        refine a_op 4 rfl (by kernel_rfl) (fun w_ h_ => o_move (v := (.int .i64 (k : Int))) e16_9 ⟨rfl, rfl⟩) ?_
        obtain ⟨b58, o59, hc60, ho61⟩ := ix_exF rcC_len Try.underlying84 ti183 h_H (by omega) hx52
        refine a_op 5 rfl (by kernel_rfl) (fun w_ h_ => ho61 rfl rfl ⟨rfl, rfl⟩) ?_
        refine a_op 6 rfl (by kernel_rfl) (fun w_ h_ => o_loadN (cs := [(.int .i64 x51.own), (S x51.key), (.bool x51.wr)]) Try.underlying183 rfl ti183 rfl h_ (seg_sub 2 rfl) hc60 ⟨rfl, rfl⟩) ?_
        have hH62 : Has E { w55 with drawn := w55.drawn + 1 } [[Hp.one b9 (.cells #[v1, (.slice none 0 0)] 86 (0, 0))], [Hp.one b2 (.cells #[v_H, v_L] 86 (0, 0))], R] := (((hH57.front 4 rfl).front 4 rfl).front 3 rfl).first 3 rfl
        refine a_w 7 rfl (by kernel_rfl) hH62 (o_buildSlice (ps := #[(0, (.agg #[(.int .i64 x51.own), (S x51.key), (.bool x51.wr)]))]) (cells := #[(.int .i64 x51.own), (S x51.key), (.bool x51.wr)]) Try.underlying84 ti183 (by decide) (parts1 rfl) (by kernel_rfl) hH57 fun b63 w65 hH66 => ?_)
        have hH67 : Has E w65 [[Hp.one b9 (.cells #[v1, (.slice none 0 0)] 86 (0, 0))], [Hp.one b2 (.cells #[v_H, v_L] 86 (0, 0))], R] := (((hH66.front 5 rfl).front 5 rfl).front 4 rfl).first 3 rfl
        refine a_done (by kernel_rfl) hH67 ?_
        refine r_op 8 rfl (by kernel_rfl) (o_append Try.underlying84 ti183 rfl (by decide) rfl ho1 rfl (sl_litF (f := rcC) (l := [x51]) rcC_len rfl rfl (by simp)) (hH66.front 1 rfl) (seg_sub 0 rfl) (one_rcC _) (by simp; omega) (by simp; omega) fun v68 s69 w71 ho70 hH72 => ?_)
        have ho70 : Own 183 3 v68 (l1 ++ [x51]).length ((l1 ++ [x51]).flatMap rcC) s69 := ho70.appF
        refine r_op 9 rfl (by kernel_rfl) (o_fieldAddr (k := 0) (fun _ => by kernel_rfl) e16_8 ?_)
        refine r_eff 10 rfl (by kernel_rfl) (o_store1 (c' := #[v68, (.slice none 0 0)]) ti84 rfl rfl ho70.one (by simp) rfl (hH72.front 2 rfl) fun w73 hH74 => ?_)
        refine Rest.done (by kernel_rfl) ?_
        refine b_norm ?_
        refine t_norm (hK25 _ _ ?_)
        refine c_region ?_
        refine s_op (o_move (v := (.int .i64 (k : Int))) e16_9 ?_)
        refine s_op (o_add (a := (k : Int)) (b := 1) rfl rfl (w64 (by omega) (by omega)) ?_)
        refine s_op (o_assign (v := (.int .i64 ((k : Int) + 1))) rfl ?_)
        refine s_nil ?_
        have hH75 : Has E w73 [s69, [Hp.one b9 (.cells #[v68, (.slice none 0 0)] 86 (0, 0))], [Hp.one b5 (.cells #[(.slice none 0 0), (.slice none 0 0)] 86 (0, 0))], [Hp.one b2 (.cells #[v_H, v_L] 86 (0, 0))], R] := (((((hH74.front 5 rfl).front 5 rfl).front 5 rfl).front 3 rfl).front 4 rfl).first 5 rfl
        refine t_norm ⟨H.length - (k + 1), _, rfl, ?_, ?_⟩
        · omega
        · exact ⟨(k + 1), v68, s69, (l1 ++ [x51]), rfl, hH75, (by omega), (ho70), (by first | omega | (simp only [List.length_append, List.length_cons, List.length_nil]; omega)), (stay_keep hf1 (show H[k]? = some _ from hx52) (.inr (by simpa using h56))), e16_0, e16_1, e16_2, e16_3, e16_6, e16_7, e16_8, rfl⟩
      · -- not: !(decide (x51.own ∈ ow))
        have h56_n : (decide (x51.own ∈ ow)) = true := by simpa using h56
        refine wp_skip ?_
        refine b_norm ?_
        refine t_norm (hK25 _ _ ?_)
        refine c_region ?_
        refine s_op (o_move (v := (.int .i64 (k : Int))) e16_9 ?_)
        refine s_op (o_add (a := (k : Int)) (b := 1) rfl rfl (w64 (by omega) (by omega)) ?_)
        refine s_op (o_assign (v := (.int .i64 ((k : Int) + 1))) rfl ?_)
        refine s_nil ?_
        refine t_norm ⟨H.length - (k + 1), _, rfl, ?_, ?_⟩
        · omega
        · exact ⟨(k + 1), v1, s1, l1, rfl, hH54, (by omega), (ho1), (by first | omega | (simp only [List.length_append, List.length_cons, List.length_nil]; omega)), (stay_drop hf1 (show H[k]? = some _ from hx52) (by simpa using h27) (by simpa using h56)), e16_0, e16_1, e16_2, e16_3, e16_6, e16_7, e16_8, rfl⟩
  · -- not: (k : Int) < ((H.length : Nat) : Int)
    refine wp_exit ?_
    refine t_exit (t_exit (x_in (?_)))
    refine t_norm (hK14 _ _ ?_)
    refine wp_seq_k fun K76 hK76 => ?_
    refine wp_seq_k fun K77 hK77 => ?_
    refine c_region ?_
    refine s_op (o_assign (v := (.int .i64 0)) rfl ?_)
    refine s_nil ?_
    refine t_norm (hK77 _ _ ?_)
    refine wp_block ?_
    let I79 : Nat → (Nat → Value) → World → Prop := fun n__ r__ w__ => ∃ (k2 : Nat) (v2 : Value) (s2 : List Hp) (l2 : List Plc), n__ = L.length - k2 ∧ Has E w__ [s2, [Hp.one b9 (.cells #[v1, v2] 86 (0, 0))], s1, [Hp.one b5 (.cells #[(.slice none 0 0), (.slice none 0 0)] 86 (0, 0))], [Hp.one b2 (.cells #[v_H, v_L] 86 (0, 0))], R] ∧ (k2 ≤ L.length) ∧ (Own 183 3 v2 l2.length (l2.flatMap rcC) s2) ∧ (l2.length ≤ k2) ∧ (l2 = stayL ow (L.take k2)) ∧ r__ 0 = (.agg #[v_H, v_L]) ∧ r__ 1 = v_ow ∧ r__ 2 = (.bool all) ∧ r__ 3 = (.pointer (some ⟨b2, 0, none⟩)) ∧ r__ 6 = (.pointer (some ⟨b5, 0, none⟩)) ∧ r__ 7 = (.slice none 0 0) ∧ r__ 8 = (.pointer (some ⟨b9, 0, none⟩)) ∧ r__ 9 = (.int .i64 (k : Int)) ∧ r__ 10 = (.int .i64 (k2 : Int)) ∧ r__ 21 = (.bool (decide ((k : Int) < ((H.length : Nat) : Int))))
    have hH80 : Has E w19 [[], [Hp.one b9 (.cells #[v1, (.slice none 0 0)] 86 (0, 0))], s1, [Hp.one b5 (.cells #[(.slice none 0 0), (.slice none 0 0)] 86 (0, 0))], [Hp.one b2 (.cells #[v_H, v_L] 86 (0, 0))], R] := Has.pick (Has.nil hH20) [0, 1, 0, 0, 0, 0] (by kernel_rfl)
    refine c_loop I79 _ ⟨0, (.slice none 0 0), [], ([] : List Plc), rfl, hH80, Nat.zero_le _, (Own.nil 183 3), (by simp), (by simp [stayL]), e16_0, e16_1, e16_2, e16_3, e16_6, e16_7, e16_8, e16_9, rfl, rfl⟩ ?_
    rintro n_ r83 w81 ⟨k2, v2, s2, l2, rfl, hH82, hk2, ho2, hl2, hf2, e78_0, e78_1, e78_2, e78_3, e78_6, e78_7, e78_8, e78_9, e78_10, e78_21⟩
    refine wp_seq_k fun K84 hK84 => ?_
    refine wp_seq_k fun K85 hK85 => ?_
    refine c_region ?_
    refine s_op (o_move (v := (.int .i64 (k2 : Int))) e78_10 ?_)
    refine s_op (o_fieldAddr (k := 1) (fun _ => by kernel_rfl) e78_3 ?_)
    refine s_op (o_load1 (v := v_L) Try.underlying84 rfl rfl hH82 (seg_sub 4 rfl) (CellsAt.one rfl) ?_)
    refine s_op (o_lenS Try.underlying84 rfl h_L ?_)
    refine s_op (o_lss (a := (k2 : Int)) (b := ((L.length : Nat) : Int)) rfl rfl ?_)
    refine s_nil ?_
    refine t_norm (hK85 _ _ ?_)
    refine c_cond rfl (fun h86 => ?_) (fun h86 => ?_)
    · -- (k2 : Int) < ((L.length : Nat) : Int)
      refine wp_skip ?_
      refine t_norm (hK84 _ _ ?_)
      refine wp_seq_k fun K87 hK87 => ?_
      refine wp_block ?_
      refine wp_seq_k fun K88 hK88 => ?_
      refine c_region ?_
      refine s_op (o_move (v := v_ow) e78_1 ?_)
      refine s_op (o_fieldAddr (k := 1) (fun _ => by kernel_rfl) e78_3 ?_)
      refine s_op (o_load1 (v := v_L) Try.underlying84 rfl rfl hH82 (seg_sub 4 rfl) (CellsAt.one rfl) ?_)
      refine s_op (o_move (v := (.int .i64 (k2 : Int))) e78_10 ?_)
      obtain ⟨x92, hx93⟩ : ∃ x_, L[((k2 : Int)).toNat]? = some x_ := get_some (by omega)
      refine s_op (o_indexF rcC_len Try.underlying84 ti183 rfl h_L rfl rfl (by omega) hx93 fun b89 o90 hc91 => ?_)
      refine s_op (o_fieldAddr (k := o90) (fun _ => by kernel_rfl) rfl ?_)
      refine s_op (o_load1 (v := (.int .i64 x92.own)) Try.underlying3 rfl rfl hH82 (seg_sub 5 rfl) (CellsAt.field (k := 0) (ds := [(.int .i64 x92.own)]) hc91 rfl) ?_)
      refine s_op (o_callf (vs := #[v_ow, (.int .i64 x92.own)]) ca140 rfl (args2 rfl rfl) (rhas_c (l := ow) (n := x92.own) hH82.all (h_ow.mono (seg_sub 5 rfl))) ?_)
      rintro _ w96 ⟨rfl, hX94⟩
      refine ⟨_, rfl, ?_⟩
      have hH95 := hX94.of_all
      refine s_op (o_not rfl ?_)
      refine s_nil ?_
      refine t_norm (hK88 _ _ ?_)
      refine c_condb rfl (fun h97 => ?_) (fun h97 => ?_)
      · -- !(decide (x92.own ∈ ow))
        have h97_n : (decide (x92.own ∈ ow)) = false := by simpa using h97
        refine Rest.region mixed (by kernel_rfl) ?_
        have hH98 : Has E { w96 with drawn := w96.drawn + 1 } [s2, [Hp.one b9 (.cells #[v1, v2] 86 (0, 0))], s1, [Hp.one b5 (.cells #[(.slice none 0 0), (.slice none 0 0)] 86 (0, 0))], [Hp.one b2 (.cells #[v_H, v_L] 86 (0, 0))], R] := Has0.drew hH95 _
        refine Rest.phaseA (fun w_ => Has E w_ [[Hp.one b9 (.cells #[v1, v2] 86 (0, 0))], [Hp.one b2 (.cells #[v_H, v_L] 86 (0, 0))], R]) 0 8 8 rfl (by decide) (by kernel_rfl) ?_
        refine a_op 0 rfl (by kernel_rfl) (fun w_ h_ => o_fieldAddr (k := 1) (fun _ => by kernel_rfl) e78_8 ⟨rfl, rfl⟩) ?_
        refine a_op 1 rfl (by kernel_rfl) (fun w_ h_ => o_load1 (v := v2) Try.underlying84 rfl rfl h_ (seg_sub 0 rfl) (CellsAt.one rfl) ⟨rfl, rfl⟩) ?_
        refine a_op 2 rfl (by kernel_rfl) (fun w_ h_ => o_fieldAddr (k := 1) (fun _ => by kernel_rfl) e78_3 ⟨rfl, rfl⟩) ?_
        refine a_op 3 rfl (by kernel_rfl) (fun w_ h_ => o_load1 (v := v_L) Try.underlying84 rfl rfl h_ (seg_sub 1 rfl) (CellsAt.one rfl) ⟨rfl, rfl⟩) ?_
        refine a_op 4 rfl (by kernel_rfl) (fun w_ h_ => o_move (v := (.int .i64 (k2 : Int))) e78_10 ⟨rfl, rfl⟩) ?_
        obtain ⟨b99, o100, hc101, ho102⟩ := ix_exF rcC_len Try.underlying84 ti183 h_L (by omega) hx93
        refine a_op 5 rfl (by kernel_rfl) (fun w_ h_ => ho102 rfl rfl ⟨rfl, rfl⟩) ?_
        refine a_op 6 rfl (by kernel_rfl) (fun w_ h_ => o_loadN (cs := [(.int .i64 x92.own), (S x92.key), (.bool x92.wr)]) Try.underlying183 rfl ti183 rfl h_ (seg_sub 2 rfl) hc101 ⟨rfl, rfl⟩) ?_
        have hH103 : Has E { w96 with drawn := w96.drawn + 1 } [[Hp.one b9 (.cells #[v1, v2] 86 (0, 0))], [Hp.one b2 (.cells #[v_H, v_L] 86 (0, 0))], R] := (((hH98.front 5 rfl).front 5 rfl).front 3 rfl).first 3 rfl
        refine a_w 7 rfl (by kernel_rfl) hH103 (o_buildSlice (ps := #[(0, (.agg #[(.int .i64 x92.own), (S x92.key), (.bool x92.wr)]))]) (cells := #[(.int .i64 x92.own), (S x92.key), (.bool x92.wr)]) Try.underlying84 ti183 (by decide) (parts1 rfl) (by kernel_rfl) hH98 fun b104 w105 hH106 => ?_)
        have hH107 : Has E w105 [[Hp.one b9 (.cells #[v1, v2] 86 (0, 0))], [Hp.one b2 (.cells #[v_H, v_L] 86 (0, 0))], R] := (((hH106.front 6 rfl).front 6 rfl).front 4 rfl).first 3 rfl
        refine a_done (by kernel_rfl) hH107 ?_
        refine r_op 8 rfl (by kernel_rfl) (o_append Try.underlying84 ti183 rfl (by decide) rfl ho2 rfl (sl_litF (f := rcC) (l := [x92]) rcC_len rfl rfl (by simp)) (hH106.front 1 rfl) (seg_sub 0 rfl) (one_rcC _) (by simp; omega) (by simp; omega) fun v108 s109 w111 ho110 hH112 => ?_)
        have ho110 : Own 183 3 v108 (l2 ++ [x92]).length ((l2 ++ [x92]).flatMap rcC) s109 := ho110.appF
        refine r_op 9 rfl (by kernel_rfl) (o_fieldAddr (k := 1) (fun _ => by kernel_rfl) e78_8 ?_)
        refine r_eff 10 rfl (by kernel_rfl) (o_store1 (c' := #[v1, v108]) ti84 rfl rfl ho110.one (by simp) rfl (hH112.front 2 rfl) fun w113 hH114 => ?_)
        refine Rest.done (by kernel_rfl) ?_
        refine b_norm ?_
        refine t_norm (hK87 _ _ ?_)
        refine c_region ?_
        refine s_op (o_move (v := (.int .i64 (k2 : Int))) e78_10 ?_)
        refine s_op (o_add (a := (k2 : Int)) (b := 1) rfl rfl (w64 (by omega) (by omega)) ?_)
        refine s_op (o_assign (v := (.int .i64 ((k2 : Int) + 1))) rfl ?_)
        refine s_nil ?_
        have hH115 : Has E w113 [s109, [Hp.one b9 (.cells #[v1, v108] 86 (0, 0))], s1, [Hp.one b5 (.cells #[(.slice none 0 0), (.slice none 0 0)] 86 (0, 0))], [Hp.one b2 (.cells #[v_H, v_L] 86 (0, 0))], R] := Has.pick hH114 [1, 0, 1, 1, 1, 1] (by kernel_rfl)
        refine t_norm ⟨L.length - (k2 + 1), _, rfl, ?_, ?_⟩
        · omega
        · exact ⟨(k2 + 1), v108, s109, (l2 ++ [x92]), rfl, hH115, (by omega), (ho110), (by first | omega | (simp only [List.length_append, List.length_cons, List.length_nil]; omega)), (stayL_keep hf2 (show L[k2]? = some _ from hx93) (by simpa using h97)), e78_0, e78_1, e78_2, e78_3, e78_6, e78_7, e78_8, e78_9, rfl, e78_21⟩
      · -- not: !(decide (x92.own ∈ ow))
        have h97_n : (decide (x92.own ∈ ow)) = true := by simpa using h97
        refine wp_skip ?_
        refine b_norm ?_
        refine t_norm (hK87 _ _ ?_)
        refine c_region ?_
        refine s_op (o_move (v := (.int .i64 (k2 : Int))) e78_10 ?_)
        refine s_op (o_add (a := (k2 : Int)) (b := 1) rfl rfl (w64 (by omega) (by omega)) ?_)
        refine s_op (o_assign (v := (.int .i64 ((k2 : Int) + 1))) rfl ?_)
        refine s_nil ?_
        refine t_norm ⟨L.length - (k2 + 1), _, rfl, ?_, ?_⟩
        · omega
        · exact ⟨(k2 + 1), v2, s2, l2, rfl, hH95, (by omega), (ho2), (by first | omega | (simp only [List.length_append, List.length_cons, List.length_nil]; omega)), (stayL_drop hf2 (show L[k2]? = some _ from hx93) (by simpa using h97)), e78_0, e78_1, e78_2, e78_3, e78_6, e78_7, e78_8, e78_9, rfl, e78_21⟩
    · -- not: (k2 : Int) < ((L.length : Nat) : Int)
      refine wp_exit ?_
      refine t_exit (t_exit (x_in (?_)))
      refine t_norm (hK76 _ _ ?_)
      refine wp_seq_k fun K116 hK116 => ?_
      refine c_region ?_
      refine s_op (o_assign (v := (.slice none 0 0)) rfl ?_)
      refine s_nil ?_
      refine t_norm (hK116 _ _ ?_)
      refine wp_seq_k fun K117 hK117 => ?_
      refine c_region ?_
      refine s_op (o_fieldAddr (k := 1) (fun _ => by kernel_rfl) e78_8 ?_)
      refine s_op (o_load1 (v := v2) Try.underlying84 rfl rfl hH82 (seg_sub 1 rfl) (CellsAt.one rfl) ?_)
      refine s_op (o_callf (vs := #[v2]) ca141 rfl (args1 rfl) (rkeys_c (l := l2) hH82.all (ho2.sl.mono (seg_sub 0 rfl)) (by first | omega | (simp only []; omega) | (simp; done) | (simp; omega))) ?_)
      rintro _ w123 ⟨v118, s119, rfl, ho120, hX121⟩
      refine ⟨_, rfl, ?_⟩
      have hH122 : Has E w123 [s119, s2, [Hp.one b9 (.cells #[v1, v2] 86 (0, 0))], s1, [Hp.one b5 (.cells #[(.slice none 0 0), (.slice none 0 0)] 86 (0, 0))], [Hp.one b2 (.cells #[v_H, v_L] 86 (0, 0))], R] := hX121.of_all1
      refine s_op (o_assign (v := v118) rfl ?_)
      refine s_nil ?_
      refine t_norm (hK117 _ _ ?_)
      refine wp_seq_k fun K124 hK124 => ?_
      refine wp_seq_k fun K125 hK125 => ?_
      refine c_region ?_
      refine s_op (o_assign (v := (.int .i64 0)) rfl ?_)
      refine s_nil ?_
      refine t_norm (hK125 _ _ ?_)
      refine wp_block ?_
      have hkl_ := keysR_len l2
      let I127 : Nat → (Nat → Value) → World → Prop := fun n__ r__ w__ => ∃ (a : Nat) (v3 : Value) (s3 : List Hp) (l3 : List Plc) (v4 : Value) (s4 : List Hp) (l4 : List Plc) (vp : Value) (sp : List Hp) (op : List Int), n__ = (keysR l2).length - a ∧ Has E w__ [s3, s4, sp, [Hp.one b9 (.cells #[v3, v4] 86 (0, 0))], s119, [Hp.one b5 (.cells #[(.slice none 0 0), (.slice none 0 0)] 86 (0, 0))], [Hp.one b2 (.cells #[v_H, v_L] 86 (0, 0))], R] ∧ (a ≤ (keysR l2).length) ∧ (Own 183 3 v3 l3.length (l3.flatMap rcC) s3) ∧ (Own 183 3 v4 l4.length (l4.flatMap rcC) s4) ∧ (Own 3 1 vp op.length (op.map iV) sp) ∧ (l3.length + l4.length ≤ l1.length + l2.length ∧ op.length + l4.length ≤ l2.length) ∧ (((leaveRF l1 l2 (keysR l2)).1, (leaveRF l1 l2 (keysR l2)).2) = lvF l3 l4 op ((keysR l2).drop a)) ∧ r__ 0 = (.agg #[v_H, v_L]) ∧ r__ 1 = v_ow ∧ r__ 2 = (.bool all) ∧ r__ 3 = (.pointer (some ⟨b2, 0, none⟩)) ∧ r__ 6 = (.pointer (some ⟨b5, 0, none⟩)) ∧ r__ 7 = (.slice none 0 0) ∧ r__ 8 = (.pointer (some ⟨b9, 0, none⟩)) ∧ r__ 9 = (.int .i64 (k : Int)) ∧ r__ 10 = (.int .i64 (k2 : Int)) ∧ r__ 11 = vp ∧ r__ 12 = v118 ∧ r__ 13 = (.int .i64 (a : Int)) ∧ r__ 21 = (.bool (decide ((k : Int) < ((H.length : Nat) : Int)))) ∧ r__ 51 = (.bool (decide ((k2 : Int) < ((L.length : Nat) : Int))))
      have hH128 : Has E w123 [s1, s2, [], [Hp.one b9 (.cells #[v1, v2] 86 (0, 0))], s119, [Hp.one b5 (.cells #[(.slice none 0 0), (.slice none 0 0)] 86 (0, 0))], [Hp.one b2 (.cells #[v_H, v_L] 86 (0, 0))], R] := Has.pick (Has.nil hH122) [4, 2, 0, 1, 0, 0, 0, 0] (by kernel_rfl)
      refine c_loop I127 _ ⟨0, v1, s1, l1, v2, s2, l2, (.slice none 0 0), [], ([] : List Int), rfl, hH128, Nat.zero_le _, ho1, ho2, (Own.nil 3 1), (by simp), (by simp [lvF]), e78_0, e78_1, e78_2, e78_3, e78_6, e78_7, e78_8, e78_9, e78_10, rfl, rfl, rfl, e78_21, rfl⟩ ?_
      rintro n_ r131 w129 ⟨a, v3, s3, l3, v4, s4, l4, vp, sp, op, rfl, hH130, ha, ho3, ho4, hop, hsz, hlv, e126_0, e126_1, e126_2, e126_3, e126_6, e126_7, e126_8, e126_9, e126_10, e126_11, e126_12, e126_13, e126_21, e126_51⟩
      obtain ⟨hsz1_, hsz2_⟩ := hsz
      refine wp_seq_k fun K132 hK132 => ?_
      refine wp_seq_k fun K133 hK133 => ?_
      refine c_region ?_
      refine s_op (o_move (v := (.int .i64 (a : Int))) e126_13 ?_)
      refine s_op (o_move (v := v118) e126_12 ?_)
      refine s_op (o_lenS Try.underlying53 rfl ho120.sl ?_)
      refine s_op (o_lss (a := (a : Int)) (b := (((keysR l2).length : Nat) : Int)) rfl rfl ?_)
      refine s_nil ?_
      refine t_norm (hK133 _ _ ?_)
      refine c_cond rfl (fun h134 => ?_) (fun h134 => ?_)
      · -- (a : Int) < (((keysR l2).length : Nat) : Int)
        refine wp_skip ?_
        refine t_norm (hK132 _ _ ?_)
        refine wp_seq_k fun K135 hK135 => ?_
        refine wp_block ?_
        refine wp_seq_k fun K136 hK136 => ?_
        refine Rest.region mixed (by kernel_rfl) ?_
        have hH137 : Has E { w129 with drawn := w129.drawn + 1 } [s3, s4, sp, [Hp.one b9 (.cells #[v3, v4] 86 (0, 0))], s119, [Hp.one b5 (.cells #[(.slice none 0 0), (.slice none 0 0)] 86 (0, 0))], [Hp.one b2 (.cells #[v_H, v_L] 86 (0, 0))], R] := Has0.drew hH130 _
        refine Rest.phaseA (fun w_ => Has E w_ [[Hp.one b9 (.cells #[v3, v4] 86 (0, 0))], s119]) 0 5 5 rfl (by decide) (by kernel_rfl) ?_
        refine a_op 0 rfl (by kernel_rfl) (fun w_ h_ => o_loadN (cs := [v3, v4]) Try.underlying86 rfl ti86 e126_8 h_ (seg_sub 0 rfl) (CellsAt.one rfl) ⟨rfl, rfl⟩) ?_
        refine a_op 1 rfl (by kernel_rfl) (fun w_ h_ => o_move (v := v118) e126_12 ⟨rfl, rfl⟩) ?_
        refine a_op 2 rfl (by kernel_rfl) (fun w_ h_ => o_move (v := (.int .i64 (a : Int))) e126_13 ⟨rfl, rfl⟩) ?_
        obtain ⟨x141, hx142⟩ : ∃ x_, (keysR l2)[((a : Int)).toNat]? = some x_ := get_some (by omega)
        obtain ⟨b138, o139, hc140, ho143⟩ := ix_ex1 Try.underlying53 ti9 ho120.sl (by omega) hx142
        refine a_op 3 rfl (by kernel_rfl) (fun w_ h_ => ho143 rfl rfl ⟨rfl, rfl⟩) ?_
        refine a_op 4 rfl (by kernel_rfl) (fun w_ h_ => o_load1 (v := (S x141)) Try.underlying9 rfl rfl h_ (seg_sub 1 rfl) hc140 ⟨rfl, rfl⟩) ?_
        have hH144 : Has E { w129 with drawn := w129.drawn + 1 } [[Hp.one b9 (.cells #[v3, v4] 86 (0, 0))], s119] := ((hH137.front 4 rfl).front 4 rfl).first 2 rfl
        refine a_done (by kernel_rfl) hH144 ?_
        refine r_op 5 rfl (by kernel_rfl) (o_callf (vs := #[(.agg #[v3, v4]), (S x141)]) ca142 rfl (args2 rfl rfl) (rfirst_c (H := l3) (L := l4) (key := x141) hH137.all (ho3.sl.mono (seg_sub 0 rfl)) (ho4.sl.mono (seg_sub 1 rfl))) ?_)
        rintro _ w147 ⟨rfl, hX145⟩
        refine ⟨_, rfl, ?_⟩
        have hH146 := hX145.of_all
        have := idxG_lt (keyIs x141) l4
        refine r_op 6 rfl (by kernel_rfl) (o_assign (v := (.int .i64 (idxG (keyIs x141) l4))) rfl ?_)
        refine Rest.done (by kernel_rfl) ?_
        refine t_norm (hK136 _ _ ?_)
        refine wp_block ?_
        let I149 : Nat → (Nat → Value) → World → Prop := fun n__ r__ w__ => ∃ (v5 : Value) (s5 : List Hp) (l5 : List Plc) (v6 : Value) (s6 : List Hp) (l6 : List Plc) (vq : Value) (sq : List Hp) (oq : List Int), n__ = l6.length ∧ Has E w__ [s5, s6, sq, [Hp.one b9 (.cells #[v5, v6] 86 (0, 0))], s119, [Hp.one b5 (.cells #[(.slice none 0 0), (.slice none 0 0)] 86 (0, 0))], [Hp.one b2 (.cells #[v_H, v_L] 86 (0, 0))], R] ∧ (Own 183 3 v5 l5.length (l5.flatMap rcC) s5) ∧ (Own 183 3 v6 l6.length (l6.flatMap rcC) s6) ∧ (Own 3 1 vq oq.length (oq.map iV) sq) ∧ (l5.length + l6.length ≤ l1.length + l2.length ∧ oq.length + l6.length ≤ l2.length) ∧ (((leaveRF l1 l2 (keysR l2)).1, (leaveRF l1 l2 (keysR l2)).2) = lvG l5 l6 oq x141 ((keysR l2).drop (a + 1))) ∧ r__ 0 = (.agg #[v_H, v_L]) ∧ r__ 1 = v_ow ∧ r__ 2 = (.bool all) ∧ r__ 3 = (.pointer (some ⟨b2, 0, none⟩)) ∧ r__ 6 = (.pointer (some ⟨b5, 0, none⟩)) ∧ r__ 7 = (.slice none 0 0) ∧ r__ 8 = (.pointer (some ⟨b9, 0, none⟩)) ∧ r__ 9 = (.int .i64 (k : Int)) ∧ r__ 10 = (.int .i64 (k2 : Int)) ∧ r__ 11 = vq ∧ r__ 12 = v118 ∧ r__ 13 = (.int .i64 (a : Int)) ∧ r__ 14 = (.int .i64 (idxG (keyIs x141) l6)) ∧ r__ 21 = (.bool (decide ((k : Int) < ((H.length : Nat) : Int)))) ∧ r__ 51 = (.bool (decide ((k2 : Int) < ((L.length : Nat) : Int)))) ∧ r__ 79 = (.bool (decide ((a : Int) < (((keysR l2).length : Nat) : Int))))
        refine c_loop I149 _ ⟨v3, s3, l3, v4, s4, l4, vp, sp, op, rfl, hH146, ho3, ho4, hop, ⟨by omega, by omega⟩, lv_open hlv (show (keysR l2)[a]? = some _ from hx142), e126_0, e126_1, e126_2, e126_3, e126_6, e126_7, e126_8, e126_9, e126_10, e126_11, e126_12, e126_13, rfl, e126_21, e126_51, rfl⟩ ?_
        rintro n_ r152 w150 ⟨v5, s5, l5, v6, s6, l6, vq, sq, oq, rfl, hH151, ho5, ho6, hoq, hsz6, hlg, e148_0, e148_1, e148_2, e148_3, e148_6, e148_7, e148_8, e148_9, e148_10, e148_11, e148_12, e148_13, e148_14, e148_21, e148_51, e148_79⟩
        obtain ⟨hsz61_, hsz62_⟩ := hsz6
        have hix_ := idxG_lt (keyIs x141) l6
        refine wp_seq_k fun K153 hK153 => ?_
        refine wp_seq_k fun K154 hK154 => ?_
        refine Rest.region mixed (by kernel_rfl) ?_
        have hH155 : Has E { w150 with drawn := w150.drawn + 1 } [s5, s6, sq, [Hp.one b9 (.cells #[v5, v6] 86 (0, 0))], s119, [Hp.one b5 (.cells #[(.slice none 0 0), (.slice none 0 0)] 86 (0, 0))], [Hp.one b2 (.cells #[v_H, v_L] 86 (0, 0))], R] := Has0.drew hH151 _
        refine r_op 0 rfl (by kernel_rfl) (o_move (v := (.int .i64 (idxG (keyIs x141) l6))) e148_14 ?_)
        refine r_op 1 rfl (by kernel_rfl) (o_geq (a := (idxG (keyIs x141) l6)) (b := 0) rfl rfl ?_)
        refine r_op 2 rfl (by kernel_rfl) (o_move (v := (.bool (decide (0 ≤ (idxG (keyIs x141) l6))))) rfl ?_)
        refine Rest.phaseA (fun w_ => Has E w_ [s6, [Hp.one b9 (.cells #[v5, v6] 86 (0, 0))]]) 3 9 6 rfl (by decide) (by kernel_rfl) ?_
        by_cases h156 : 0 ≤ (idxG (keyIs x141) l6)
        · -- 0 ≤ (idxG (keyIs x141) l6)
          refine a_on 3 rfl (by kernel_rfl) 90 rfl (congrArg Value.bool (decide_eq_true h156)) (fun w_ h_ => o_loadN (cs := [v5, v6]) Try.underlying86 rfl ti86 e148_8 h_ (seg_sub 1 rfl) (CellsAt.one rfl) ⟨rfl, rfl⟩) ?_
          refine a_on 4 rfl (by kernel_rfl) 90 rfl (congrArg Value.bool (decide_eq_true h156)) (fun w_ h_ => o_fieldAddr (k := 1) (fun _ => by kernel_rfl) e148_8 ⟨rfl, rfl⟩) ?_
          refine a_on 5 rfl (by kernel_rfl) 90 rfl (congrArg Value.bool (decide_eq_true h156)) (fun w_ h_ => o_load1 (v := v6) Try.underlying84 rfl rfl h_ (seg_sub 1 rfl) (CellsAt.one rfl) ⟨rfl, rfl⟩) ?_
          refine a_on 6 rfl (by kernel_rfl) 90 rfl (congrArg Value.bool (decide_eq_true h156)) (fun w_ h_ => o_move (v := (.int .i64 (idxG (keyIs x141) l6))) e148_14 ⟨rfl, rfl⟩) ?_
          obtain ⟨x160, hx161⟩ : ∃ x_, l6[((idxG (keyIs x141) l6)).toNat]? = some x_ := get_some (by omega)
          obtain ⟨b157, o158, hc159, ho162⟩ := ix_exF rcC_len Try.underlying84 ti183 ho6.sl (by omega) hx161
          refine a_on 7 rfl (by kernel_rfl) 90 rfl (congrArg Value.bool (decide_eq_true h156)) (fun w_ h_ => ho162 rfl rfl ⟨rfl, rfl⟩) ?_
          refine a_on 8 rfl (by kernel_rfl) 90 rfl (congrArg Value.bool (decide_eq_true h156)) (fun w_ h_ => o_loadN (cs := [(.int .i64 x160.own), (S x160.key), (.bool x160.wr)]) Try.underlying183 rfl ti183 rfl h_ (seg_sub 0 rfl) hc159 ⟨rfl, rfl⟩) ?_
          have hH163 : Has E { w150 with drawn := w150.drawn + 1 } [s6, [Hp.one b9 (.cells #[v5, v6] 86 (0, 0))]] := ((hH155.front 3 rfl).front 2 rfl).first 2 rfl
          refine a_done (by kernel_rfl) hH163 ?_
          refine r_on 9 rfl (by kernel_rfl) 90 rfl (congrArg Value.bool (decide_eq_true h156)) (o_callf (vs := #[(.agg #[v5, v6]), (.agg #[(.int .i64 x160.own), (S x160.key), (.bool x160.wr)])]) ca137 rfl (args2 rfl rfl) (rfree_c (H := l5) (L := l6) (c := x160) hH155.all (ho5.sl.mono (seg_sub 0 rfl)) (ho6.sl.mono (seg_sub 1 rfl))) ?_)
          rintro _ w166 ⟨rfl, hX164⟩
          refine ⟨_, rfl, ?_⟩
          have hH165 := hX164.of_all
          refine r_op 10 rfl (by kernel_rfl) (o_pick_t (u := (.bool (freeR l5 x160))) ((rfl : _ = _).trans (congrArg Value.bool (decide_eq_true h156))) rfl ?_)
          refine Rest.done (by kernel_rfl) ?_
          refine t_norm (hK154 _ _ ?_)
          refine c_condb rfl (fun h167 => ?_) (fun h167 => ?_)
          · -- (freeR l5 x160)
            refine wp_skip ?_
            refine t_norm (hK153 _ _ ?_)
            refine wp_seq_k fun K168 hK168 => ?_
            refine wp_block ?_
            refine wp_seq_k fun K169 hK169 => ?_
            refine c_region ?_
            refine s_op (o_fieldAddr (k := 1) (fun _ => by kernel_rfl) e148_8 ?_)
            refine s_op (o_load1 (v := v6) Try.underlying84 rfl rfl hH165 (seg_sub 3 rfl) (CellsAt.one rfl) ?_)
            refine s_op (o_move (v := (.int .i64 (idxG (keyIs x141) l6))) e148_14 ?_)
            refine s_op (o_indexF rcC_len Try.underlying84 ti183 rfl ho6.sl rfl rfl (by omega) hx161 fun b170 o171 hc172 => ?_)
            refine s_op (o_loadN (cs := [(.int .i64 x160.own), (S x160.key), (.bool x160.wr)]) Try.underlying183 rfl ti183 rfl hH165 (seg_sub 1 rfl) hc172 ?_)
            refine s_op (o_alloc (cs := #[(.int .i64 0), (S ([] : List UInt8)), (.bool false)]) ti183 rfl hH165 fun b173 w174 hH175 => ?_)
            refine s_eff (o_storeN (vs := [(.int .i64 x160.own), (S x160.key), (.bool x160.wr)]) (c' := #[(.int .i64 x160.own), (S x160.key), (.bool x160.wr)]) ti183 rfl rfl rfl rfl (by intro u hu; simp only [List.mem_cons, List.not_mem_nil, or_false] at hu; rcases hu with rfl | rfl | rfl <;> first | rfl) (by simp) (by kernel_rfl) (hH175.front 0 rfl) fun w176 hH177 => ?_)
            refine s_nil ?_
            refine t_norm (hK169 _ _ ?_)
            refine wp_seq_k fun K178 hK178 => ?_
            refine c_region ?_
            refine s_op (o_fieldAddr (k := 1) (fun _ => by kernel_rfl) e148_8 ?_)
            refine s_op (o_load1 (v := v6) Try.underlying84 rfl rfl hH177 (seg_sub 4 rfl) (CellsAt.one rfl) ?_)
            refine s_op (o_move (v := (.int .i64 (idxG (keyIs x141) l6))) e148_14 ?_)
            refine s_op (o_callf (vs := #[v6, (.int .i64 (idxG (keyIs x141) l6))]) ca143 rfl (args2 rfl rfl) (rwithout_c (l := l6) (ix := (idxG (keyIs x141) l6)) hH177.all (ho6.sl.mono (seg_sub 2 rfl)) (by first | omega | (simp only []; omega) | (simp; done) | (simp; omega)) (by first | omega | (simp only []; omega) | (simp; done) | (simp; omega))) ?_)
            rintro _ w184 ⟨v179, s180, rfl, ho181, hX182⟩
            refine ⟨_, rfl, ?_⟩
            have hH183 : Has E w184 [s180, [Hp.one b173 (.cells #[(.int .i64 x160.own), (S x160.key), (.bool x160.wr)] 183 (0, 0))], s5, s6, sq, [Hp.one b9 (.cells #[v5, v6] 86 (0, 0))], s119, [Hp.one b5 (.cells #[(.slice none 0 0), (.slice none 0 0)] 86 (0, 0))], [Hp.one b2 (.cells #[v_H, v_L] 86 (0, 0))], R] := hX182.of_all1
            have := er_len (show 0 ≤ (idxG (keyIs x141) l6) ∧ (idxG (keyIs x141) l6) < (l6.length : Int) from by omega)
            refine s_op (o_fieldAddr (k := 1) (fun _ => by kernel_rfl) e148_8 ?_)
            refine s_eff (o_store1 (c' := #[v5, v179]) ti84 rfl rfl ho181.one (by simp) rfl (hH183.front 5 rfl) fun w185 hH186 => ?_)
            refine s_nil ?_
            refine t_norm (hK178 _ _ ?_)
            refine wp_seq_k fun K187 hK187 => ?_
            refine c_region ?_
            refine s_op (o_loadN (cs := [v5, v179]) Try.underlying86 rfl ti86 e148_8 hH186 (seg_sub 0 rfl) (CellsAt.one rfl) ?_)
            refine s_op (o_loadN (cs := [(.int .i64 x160.own), (S x160.key), (.bool x160.wr)]) Try.underlying183 rfl ti183 rfl hH186 (seg_sub 2 rfl) (CellsAt.one rfl) ?_)
            refine s_op (o_callf (vs := #[(.agg #[v5, v179]), (.agg #[(.int .i64 x160.own), (S x160.key), (.bool x160.wr)])]) ca138 rfl (args2 rfl rfl) (rhold_c (H := l5) (L := (l6.eraseIdx (idxG (keyIs x141) l6).toNat)) (c := x160) hH186.all (ho5.sl.mono (seg_sub 3 rfl)) (ho181.sl.mono (seg_sub 1 rfl)) (by first | omega | (simp only []; omega) | (simp; done) | (simp; omega))) ?_)
            rintro _ w193 ⟨v188, s189, rfl, ho190, hX191⟩
            refine ⟨_, rfl, ?_⟩
            have hH192 : Has E w193 [s189, [Hp.one b9 (.cells #[v5, v179] 86 (0, 0))], s180, [Hp.one b173 (.cells #[(.int .i64 x160.own), (S x160.key), (.bool x160.wr)] 183 (0, 0))], s5, s6, sq, s119, [Hp.one b5 (.cells #[(.slice none 0 0), (.slice none 0 0)] 86 (0, 0))], [Hp.one b2 (.cells #[v_H, v_L] 86 (0, 0))], R] := hX191.of_all1
            refine s_eff (o_storeN (vs := [v188, v179]) (c' := #[v188, v179]) ti86 e148_8 rfl rfl rfl (by intro u hu; simp only [List.mem_cons, List.not_mem_nil, or_false] at hu; rcases hu with rfl | rfl <;> first | rfl | exact ho190.one | exact ho181.one) (by simp) (by kernel_rfl) (hH192.front 1 rfl) fun w194 hH195 => ?_)
            refine s_nil ?_
            refine t_norm (hK187 _ _ ?_)
            refine c_region ?_
            refine s_op (o_move (v := vq) e148_11 ?_)
            refine s_op (o_fieldAddr (k := 0) (fun _ => by kernel_rfl) rfl ?_)
            refine s_op (o_load1 (v := (.int .i64 x160.own)) Try.underlying3 rfl rfl hH195 (seg_sub 3 rfl) (CellsAt.one rfl) ?_)
            refine s_op (o_buildSlice (ps := #[(0, (.int .i64 x160.own))]) (cells := #[(.int .i64 x160.own)]) Try.underlying54 ti3 (by decide) (parts1 rfl) (by kernel_rfl) hH195 fun b196 w197 hH198 => ?_)
            refine s_op (o_append Try.underlying54 ti3 rfl (by decide) rfl hoq rfl (sl_lit (f := iV) (l := [x160.own]) rfl rfl (by simp)) (hH198.front 7 rfl) (seg_sub 0 rfl) (one_iV _) (by simp; omega) (by simp; omega) fun v199 s200 w202 ho201 hH203 => ?_)
            have ho201 : Own 3 1 v199 (oq ++ [x160.own]).length ((oq ++ [x160.own]).map iV) s200 := ho201.app
            refine s_op (o_assign (v := v199) rfl ?_)
            refine s_nil ?_
            refine b_norm ?_
            refine t_norm (hK168 _ _ ?_)
            refine Rest.region mixed (by kernel_rfl) ?_
            have hH204 : Has E { w202 with drawn := w202.drawn + 1 } [s200, [Hp.one b196 (.cells #[(.int .i64 x160.own)] 3 (0, 0))], [Hp.one b9 (.cells #[v188, v179] 86 (0, 0))], s189, s180, [Hp.one b173 (.cells #[(.int .i64 x160.own), (S x160.key), (.bool x160.wr)] 183 (0, 0))], s5, s6, s119, [Hp.one b5 (.cells #[(.slice none 0 0), (.slice none 0 0)] 86 (0, 0))], [Hp.one b2 (.cells #[v_H, v_L] 86 (0, 0))], R] := Has0.drew hH203 _
            refine Rest.phaseA (fun w_ => Has E w_ [[Hp.one b9 (.cells #[v188, v179] 86 (0, 0))], s119]) 0 5 5 rfl (by decide) (by kernel_rfl) ?_
            refine a_op 0 rfl (by kernel_rfl) (fun w_ h_ => o_loadN (cs := [v188, v179]) Try.underlying86 rfl ti86 e148_8 h_ (seg_sub 0 rfl) (CellsAt.one rfl) ⟨rfl, rfl⟩) ?_
            refine a_op 1 rfl (by kernel_rfl) (fun w_ h_ => o_move (v := v118) e148_12 ⟨rfl, rfl⟩) ?_
            refine a_op 2 rfl (by kernel_rfl) (fun w_ h_ => o_move (v := (.int .i64 (a : Int))) e148_13 ⟨rfl, rfl⟩) ?_
            obtain ⟨b205, o206, hc207, ho208⟩ := ix_ex1 Try.underlying53 ti9 ho120.sl (by omega) hx142
            refine a_op 3 rfl (by kernel_rfl) (fun w_ h_ => ho208 rfl rfl ⟨rfl, rfl⟩) ?_
            refine a_op 4 rfl (by kernel_rfl) (fun w_ h_ => o_load1 (v := (S x141)) Try.underlying9 rfl rfl h_ (seg_sub 1 rfl) hc207 ⟨rfl, rfl⟩) ?_
            have hH209 : Has E { w202 with drawn := w202.drawn + 1 } [[Hp.one b9 (.cells #[v188, v179] 86 (0, 0))], s119] := ((hH204.front 8 rfl).front 3 rfl).first 2 rfl
            refine a_done (by kernel_rfl) hH209 ?_
            refine r_op 5 rfl (by kernel_rfl) (o_callf (vs := #[(.agg #[v188, v179]), (S x141)]) ca142 rfl (args2 rfl rfl) (rfirst_c (H := (holdR l5 x160)) (L := (l6.eraseIdx (idxG (keyIs x141) l6).toNat)) (key := x141) hH204.all (ho190.sl.mono (seg_sub 3 rfl)) (ho181.sl.mono (seg_sub 4 rfl))) ?_)
            rintro _ w212 ⟨rfl, hX210⟩
            refine ⟨_, rfl, ?_⟩
            have hH211 := hX210.of_all
            have := idxG_lt (keyIs x141) (l6.eraseIdx (idxG (keyIs x141) l6).toNat)
            refine r_op 6 rfl (by kernel_rfl) (o_assign (v := (.int .i64 (idxG (keyIs x141) (l6.eraseIdx (idxG (keyIs x141) l6).toNat)))) rfl ?_)
            refine Rest.done (by kernel_rfl) ?_
            have hH213 : Has E w212 [s189, s180, s200, [Hp.one b9 (.cells #[v188, v179] 86 (0, 0))], s119, [Hp.one b5 (.cells #[(.slice none 0 0), (.slice none 0 0)] 86 (0, 0))], [Hp.one b2 (.cells #[v_H, v_L] 86 (0, 0))], R] := Has.pick hH211 [3, 3, 0, 1, 4, 4, 4, 4] (by kernel_rfl)
            refine t_norm ⟨(l6.eraseIdx (idxG (keyIs x141) l6).toNat).length, _, rfl, ?_, ?_⟩
            · omega
            · exact ⟨v188, s189, (holdR l5 x160), v179, s180, (l6.eraseIdx (idxG (keyIs x141) l6).toNat), v199, s200, (oq ++ [x160.own]), rfl, hH213, (ho190), (ho181), (ho201), (by (have h7_ := holdR_len l5 x160); simp only [List.length_append, List.length_cons, List.length_nil]; omega), (lv_step hlg h156 (show l6[_]? = some _ from hx161) h167), e148_0, e148_1, e148_2, e148_3, e148_6, e148_7, e148_8, e148_9, e148_10, rfl, e148_12, e148_13, rfl, e148_21, e148_51, e148_79⟩
          · -- not: (freeR l5 x160)
            refine wp_exit ?_
            refine t_exit (t_exit (x_in (?_)))
            refine b_norm ?_
            refine t_norm (hK135 _ _ ?_)
            refine c_region ?_
            refine s_op (o_move (v := (.int .i64 (a : Int))) e148_13 ?_)
            refine s_op (o_add (a := (a : Int)) (b := 1) rfl rfl (w64 (by omega) (by omega)) ?_)
            refine s_op (o_assign (v := (.int .i64 ((a : Int) + 1))) rfl ?_)
            refine s_nil ?_
            refine t_norm ⟨(keysR l2).length - (a + 1), _, rfl, ?_, ?_⟩
            · omega
            · exact ⟨(a + 1), v5, s5, l5, v6, s6, l6, vq, sq, oq, rfl, hH165, (by omega), (ho5), (ho6), (hoq), (⟨by omega, by omega⟩), (lv_stop hlg (.inr ⟨_, h156, show l6[_]? = some _ from hx161, h167⟩)), e148_0, e148_1, e148_2, e148_3, e148_6, e148_7, e148_8, e148_9, e148_10, e148_11, e148_12, rfl, e148_21, e148_51⟩
        · -- not: 0 ≤ (idxG (keyIs x141) l6)
          refine a_off (b' := false) 3 rfl (by kernel_rfl) 90 rfl (congrArg Value.bool (decide_eq_false h156)) rfl ?_
          refine a_off (b' := false) 4 rfl (by kernel_rfl) 90 rfl (congrArg Value.bool (decide_eq_false h156)) rfl ?_
          refine a_off (b' := false) 5 rfl (by kernel_rfl) 90 rfl (congrArg Value.bool (decide_eq_false h156)) rfl ?_
          refine a_off (b' := false) 6 rfl (by kernel_rfl) 90 rfl (congrArg Value.bool (decide_eq_false h156)) rfl ?_
          refine a_off (b' := false) 7 rfl (by kernel_rfl) 90 rfl (congrArg Value.bool (decide_eq_false h156)) rfl ?_
          refine a_off (b' := false) 8 rfl (by kernel_rfl) 90 rfl (congrArg Value.bool (decide_eq_false h156)) rfl ?_
          have hH214 : Has E { w150 with drawn := w150.drawn + 1 } [s6, [Hp.one b9 (.cells #[v5, v6] 86 (0, 0))]] := ((hH155.front 3 rfl).front 2 rfl).first 2 rfl
          refine a_done (by kernel_rfl) hH214 ?_
          refine r_off (b' := false) 9 rfl (by kernel_rfl) 90 rfl (congrArg Value.bool (decide_eq_false h156)) rfl ?_
          refine r_op 10 rfl (by kernel_rfl) (o_pick_f (u := (.bool false)) ((rfl : _ = _).trans (congrArg Value.bool (decide_eq_false h156))) rfl ?_)
          refine Rest.done (by kernel_rfl) ?_
          refine t_norm (hK154 _ _ ?_)
          refine c_false rfl rfl ?_
          refine wp_exit ?_
          refine t_exit (t_exit (x_in (?_)))
          refine b_norm ?_
          refine t_norm (hK135 _ _ ?_)
          refine c_region ?_
          refine s_op (o_move (v := (.int .i64 (a : Int))) e148_13 ?_)
          refine s_op (o_add (a := (a : Int)) (b := 1) rfl rfl (w64 (by omega) (by omega)) ?_)
          refine s_op (o_assign (v := (.int .i64 ((a : Int) + 1))) rfl ?_)
          refine s_nil ?_
          refine t_norm ⟨(keysR l2).length - (a + 1), _, rfl, ?_, ?_⟩
          · omega
          · exact ⟨(a + 1), v5, s5, l5, v6, s6, l6, vq, sq, oq, rfl, hH155, (by omega), (ho5), (ho6), (hoq), (⟨by omega, by omega⟩), (lv_stop hlg (.inl h156)), e148_0, e148_1, e148_2, e148_3, e148_6, e148_7, e148_8, e148_9, e148_10, e148_11, e148_12, rfl, e148_21, e148_51⟩
      · -- not: (a : Int) < (((keysR l2).length : Nat) : Int)
        refine wp_exit ?_
        refine t_exit (t_exit (x_in (?_)))
        refine t_norm (hK124 _ _ ?_)
        refine wp_seq_k fun K215 hK215 => ?_
        refine c_region ?_
        refine s_op (o_loadN (cs := [v3, v4]) Try.underlying86 rfl ti86 e126_8 hH130 (seg_sub 3 rfl) (CellsAt.one rfl) ?_)
        refine s_op (o_move (v := vp) e126_11 ?_)
        refine s_eff (o_storeN (vs := [v3, v4]) (c' := #[v3, v4]) ti86 e126_6 rfl rfl rfl (by intro u hu; simp only [List.mem_cons, List.not_mem_nil, or_false] at hu; rcases hu with rfl | rfl <;> first | rfl | exact ho3.one | exact ho4.one) (by simp) (by kernel_rfl) (hH130.front 5 rfl) fun w216 hH217 => ?_)
        refine s_op (o_assign (v := vp) rfl ?_)
        refine s_nil ?_
        refine t_norm (hK215 _ _ ?_)
        refine wp_ret ?_
        refine c_retC2 Try.results99 e126_6 (run_loadVarN (cs := [v3, v4]) Try.underlying86 rfl ti86 hH217 (seg_sub 0 rfl) (CellsAt.one rfl)) (x := vp) rfl ?_
        have hq2_ := lv_end hlv (by omega)
        have hk1_ : k = H.length := by omega
        have hk2_ : k2 = L.length := by omega
        rw [hk1_, List.take_length] at hf1
        rw [hk2_, List.take_length] at hf2
        have hq_ : (leaveR all ow H L) = ((l3, l4), op) := by rw [← hq2_, leaveR, ← hf1, ← hf2]
        have q218 : (leaveR all ow H L).1.1 = l3 := by rw [hq_]
        have q219 : (leaveR all ow H L).1.2 = l4 := by rw [hq_]
        have q220 : (leaveR all ow H L).2 = op := by rw [hq_]
        have hH221 : Has E w216 [s3, s4, sp, R] := ((((hH217.front 7 rfl).front 4 rfl).front 4 rfl).front 4 rfl).first 4 rfl
        exact ⟨_, _, _, _, _, _, rfl, (by rw [q218]; exact ho3), (by rw [q219]; exact ho4), (by rw [q220]; exact hop), hH221⟩
end Go.Q
namespace Go.Q
open Go.Proofs
set_option linter.unusedVariables false
set_option maxRecDepth 100000
attribute [local irreducible] wpList OK Code.wp
set_option maxHeartbeats 4000000 in
theorem redges_c {E w : World} {R : List Hp} {v_H : Value} {H : List Plc} {v_L : Value} {L : List Plc}  (hH : Has E w [R]) (h_H : Sl R 3 v_H H.length (H.flatMap rcC)) (h_L : Sl R 3 v_L L.length (L.flatMap rcC)) (hn : H.length ≤ 1000 ∧ L.length ≤ 1000) :
    Calls Try.prog 103 #[(.agg #[v_H, v_L])] w fun e w' => ∃ (v1' : Value) (s2' : List Hp), e = .returned v1' ∧ (Own 187 2 v1' (edgesR H L).length ((edgesR H L).flatMap tmC) s2') ∧ Has E w' [s2', R] := by
  obtain ⟨hn1_, hn2_⟩ := hn
  have hkl_ := keysR_len L
  refine c_enter (args := [(.agg #[v_H, v_L])]) Try.func103 rfl Try.ntmps103 (by simp) ?_
  refine wp_seq_k fun K1 hK1 => ?_
  refine c_region ?_
  refine s_op (o_box (cs := #[v_H, v_L]) rfl rfl hH fun b2 w3 hH4 => ?_)
  refine s_op (o_assign (v := (.slice none 0 0)) rfl ?_)
  refine s_nil ?_
  refine t_norm (hK1 _ _ ?_)
  refine wp_seq_k fun K5 hK5 => ?_
  refine c_region ?_
  refine s_op (o_assign (v := (.slice none 0 0)) rfl ?_)
  refine s_nil ?_
  refine t_norm (hK5 _ _ ?_)
  refine wp_seq_k fun K6 hK6 => ?_
  refine c_region ?_
  refine s_op (o_fieldAddr (k := 1) (fun _ => by kernel_rfl) rfl ?_)
  refine s_op (o_load1 (v := v_L) Try.underlying84 rfl rfl hH4 (seg_sub 0 rfl) (CellsAt.one rfl) ?_)
  refine s_op (o_callf (vs := #[v_L]) ca141 rfl (args1 rfl) (rkeys_c (l := L) hH4.all (h_L.mono (seg_sub 1 rfl)) (by first | omega | (simp only []; omega) | (simp; done) | (simp; omega))) ?_)
  rintro _ w12 ⟨v7, s8, rfl, ho9, hX10⟩
  refine ⟨_, rfl, ?_⟩
  have hH11 : Has E w12 [s8, [Hp.one b2 (.cells #[v_H, v_L] 86 (0, 0))], R] := hX10.of_all1
  refine s_op (o_assign (v := v7) rfl ?_)
  refine s_nil ?_
  refine t_norm (hK6 _ _ ?_)
  refine wp_seq_k fun K13 hK13 => ?_
  refine wp_seq_k fun K14 hK14 => ?_
  refine c_region ?_
  refine s_op (o_assign (v := (.int .i64 0)) rfl ?_)
  refine s_nil ?_
  refine t_norm (hK14 _ _ ?_)
  refine wp_block ?_
  let I16 : Nat → (Nat → Value) → World → Prop := fun n__ r__ w__ => ∃ (a : Nat) (va : Value) (sa : List Hp) (oa : List (Int × Int)), n__ = (keysR L).length - a ∧ Has E w__ [sa, s8, [Hp.one b2 (.cells #[v_H, v_L] 86 (0, 0))], R] ∧ (a ≤ (keysR L).length) ∧ (Own 187 2 va oa.length (oa.flatMap tmC) sa) ∧ (oa.length ≤ a * 2000000) ∧ (oa = ((keysR L).take a).flatMap (eK H L)) ∧ r__ 0 = (.agg #[v_H, v_L]) ∧ r__ 1 = (.pointer (some ⟨b2, 0, none⟩)) ∧ r__ 2 = (.slice none 0 0) ∧ r__ 3 = va ∧ r__ 4 = v7 ∧ r__ 5 = (.int .i64 (a : Int))
  have hH17 : Has E w12 [[], s8, [Hp.one b2 (.cells #[v_H, v_L] 86 (0, 0))], R] := (Has.nil (((hH11.front 2 rfl).front 2 rfl).front 2 rfl)).first 4 rfl
  refine c_loop I16 _ ⟨0, (.slice none 0 0), [], [], rfl, hH17, Nat.zero_le _, Own.nil 187 2, (by simp), rfl, rfl, rfl, rfl, rfl, rfl, rfl⟩ ?_
  rintro n_ r20 w18 ⟨a, va, sa, oa, rfl, hH19, ha, hoa, hla, hfa, e15_0, e15_1, e15_2, e15_3, e15_4, e15_5⟩
  refine wp_seq_k fun K21 hK21 => ?_
  refine wp_seq_k fun K22 hK22 => ?_
  refine c_region ?_
  refine s_op (o_move (v := (.int .i64 (a : Int))) e15_5 ?_)
  refine s_op (o_move (v := v7) e15_4 ?_)
  refine s_op (o_lenS Try.underlying53 rfl ho9.sl ?_)
  refine s_op (o_lss (a := (a : Int)) (b := (((keysR L).length : Nat) : Int)) rfl rfl ?_)
  refine s_nil ?_
  refine t_norm (hK22 _ _ ?_)
  refine c_cond rfl (fun h23 => ?_) (fun h23 => ?_)
  · -- (a : Int) < (((keysR L).length : Nat) : Int)
    refine wp_skip ?_
    refine t_norm (hK21 _ _ ?_)
    refine wp_seq_k fun K24 hK24 => ?_
    refine wp_block ?_
    refine wp_seq_k fun K25 hK25 => ?_
    refine c_region ?_
    refine s_op (o_assign (v := (.int .i64 0)) rfl ?_)
    refine s_nil ?_
    refine t_norm (hK25 _ _ ?_)
    refine wp_block ?_
    obtain ⟨x26, hx27⟩ : ∃ x_, (keysR L)[((a : Int)).toNat]? = some x_ := get_some (by omega)
    let I29 : Nat → (Nat → Value) → World → Prop := fun n__ r__ w__ => ∃ (k : Nat) (vb : Value) (sb : List Hp) (ob : List (Int × Int)), n__ = L.length - k ∧ Has E w__ [sb, s8, [Hp.one b2 (.cells #[v_H, v_L] 86 (0, 0))], R] ∧ (k ≤ L.length) ∧ (Own 187 2 vb ob.length (ob.flatMap tmC) sb) ∧ (ob.length ≤ a * 2000000 + k * 2000) ∧ (ob = oa ++ edR H [] x26 (L.take k)) ∧ r__ 0 = (.agg #[v_H, v_L]) ∧ r__ 1 = (.pointer (some ⟨b2, 0, none⟩)) ∧ r__ 2 = (.slice none 0 0) ∧ r__ 3 = vb ∧ r__ 4 = v7 ∧ r__ 5 = (.int .i64 (a : Int)) ∧ r__ 6 = (.int .i64 (k : Int)) ∧ r__ 18 = (.bool (decide ((a : Int) < (((keysR L).length : Nat) : Int))))
    refine c_loop I29 _ ⟨0, va, sa, oa, rfl, hH19, Nat.zero_le _, hoa, (by rw [Nat.zero_mul, Nat.add_zero]; exact hla), (by simp [edR]), e15_0, e15_1, e15_2, e15_3, e15_4, e15_5, rfl, rfl⟩ ?_
    rintro n_ r32 w30 ⟨k, vb, sb, ob, rfl, hH31, hk, hob, hlb, hfb, e28_0, e28_1, e28_2, e28_3, e28_4, e28_5, e28_6, e28_18⟩
    refine wp_seq_k fun K33 hK33 => ?_
    refine wp_seq_k fun K34 hK34 => ?_
    refine c_region ?_
    refine s_op (o_move (v := (.int .i64 (k : Int))) e28_6 ?_)
    refine s_op (o_fieldAddr (k := 1) (fun _ => by kernel_rfl) e28_1 ?_)
    refine s_op (o_load1 (v := v_L) Try.underlying84 rfl rfl hH31 (seg_sub 2 rfl) (CellsAt.one rfl) ?_)
    refine s_op (o_lenS Try.underlying84 rfl h_L ?_)
    refine s_op (o_lss (a := (k : Int)) (b := ((L.length : Nat) : Int)) rfl rfl ?_)
    refine s_nil ?_
    refine t_norm (hK34 _ _ ?_)
    refine c_cond rfl (fun h35 => ?_) (fun h35 => ?_)
    · -- (k : Int) < ((L.length : Nat) : Int)
      refine wp_skip ?_
      refine t_norm (hK33 _ _ ?_)
      refine wp_seq_k fun K36 hK36 => ?_
      refine wp_block ?_
      refine wp_seq_k fun K37 hK37 => ?_
      refine c_region ?_
      refine s_op (o_fieldAddr (k := 1) (fun _ => by kernel_rfl) e28_1 ?_)
      refine s_op (o_load1 (v := v_L) Try.underlying84 rfl rfl hH31 (seg_sub 2 rfl) (CellsAt.one rfl) ?_)
      refine s_op (o_move (v := (.int .i64 (k : Int))) e28_6 ?_)
      obtain ⟨x41, hx42⟩ : ∃ x_, L[((k : Int)).toNat]? = some x_ := get_some (by omega)
      refine s_op (o_indexF rcC_len Try.underlying84 ti183 rfl h_L rfl rfl (by omega) hx42 fun b38 o39 hc40 => ?_)
      refine s_op (o_loadN (cs := [(.int .i64 x41.own), (S x41.key), (.bool x41.wr)]) Try.underlying183 rfl ti183 rfl hH31 (seg_sub 3 rfl) hc40 ?_)
      refine s_op (o_alloc (cs := #[(.int .i64 0), (S ([] : List UInt8)), (.bool false)]) ti183 rfl hH31 fun b43 w44 hH45 => ?_)
      refine s_eff (o_storeN (vs := [(.int .i64 x41.own), (S x41.key), (.bool x41.wr)]) (c' := #[(.int .i64 x41.own), (S x41.key), (.bool x41.wr)]) ti183 rfl rfl rfl rfl (by intro u hu; simp only [List.mem_cons, List.not_mem_nil, or_false] at hu; rcases hu with rfl | rfl | rfl <;> first | rfl) (by simp) (by kernel_rfl) (hH45.front 0 rfl) fun w46 hH47 => ?_)
      refine s_nil ?_
      refine t_norm (hK37 _ _ ?_)
      refine wp_seq_k fun K48 hK48 => ?_
      refine wp_seq_k fun K49 hK49 => ?_
      refine Rest.region mixed (by kernel_rfl) ?_
      have hH50 : Has E { w46 with drawn := w46.drawn + 1 } [[Hp.one b43 (.cells #[(.int .i64 x41.own), (S x41.key), (.bool x41.wr)] 183 (0, 0))], sb, s8, [Hp.one b2 (.cells #[v_H, v_L] 86 (0, 0))], R] := Has0.drew hH47 _
      refine Rest.phaseA (fun w_ => Has E w_ [[Hp.one b43 (.cells #[(.int .i64 x41.own), (S x41.key), (.bool x41.wr)] 183 (0, 0))], s8]) 0 6 6 rfl (by decide) (by kernel_rfl) ?_
      refine a_op 0 rfl (by kernel_rfl) (fun w_ h_ => o_fieldAddr (k := 1) (fun _ => by kernel_rfl) rfl ⟨rfl, rfl⟩) ?_
      refine a_op 1 rfl (by kernel_rfl) (fun w_ h_ => o_load1 (v := (S x41.key)) Try.underlying9 rfl rfl h_ (seg_sub 0 rfl) (CellsAt.one rfl) ⟨rfl, rfl⟩) ?_
      refine a_op 2 rfl (by kernel_rfl) (fun w_ h_ => o_move (v := v7) e28_4 ⟨rfl, rfl⟩) ?_
      refine a_op 3 rfl (by kernel_rfl) (fun w_ h_ => o_move (v := (.int .i64 (a : Int))) e28_5 ⟨rfl, rfl⟩) ?_
      obtain ⟨b51, o52, hc53, ho54⟩ := ix_ex1 Try.underlying53 ti9 ho9.sl (by omega) hx27
      refine a_op 4 rfl (by kernel_rfl) (fun w_ h_ => ho54 rfl rfl ⟨rfl, rfl⟩) ?_
      refine a_op 5 rfl (by kernel_rfl) (fun w_ h_ => o_load1 (v := (S x26)) Try.underlying9 rfl rfl h_ (seg_sub 1 rfl) hc53 ⟨rfl, rfl⟩) ?_
      have hH55 : Has E { w46 with drawn := w46.drawn + 1 } [[Hp.one b43 (.cells #[(.int .i64 x41.own), (S x41.key), (.bool x41.wr)] 183 (0, 0))], s8] := ((hH50.front 2 rfl).front 1 rfl).first 2 rfl
      refine a_done (by kernel_rfl) hH55 ?_
      refine r_op 6 rfl (by kernel_rfl) (o_sneq (a := x41.key) (b := x26) rfl rfl ?_)
      refine Rest.done (by kernel_rfl) ?_
      refine t_norm (hK49 _ _ ?_)
      refine c_cond rfl (fun h56 => ?_) (fun h56 => ?_)
      · -- x41.key ≠ x26
        refine wp_exit ?_
        refine t_exit (x_in (?_))
        refine t_norm (hK36 _ _ ?_)
        refine c_region ?_
        refine s_op (o_move (v := (.int .i64 (k : Int))) e28_6 ?_)
        refine s_op (o_add (a := (k : Int)) (b := 1) rfl rfl (w64 (by omega) (by omega)) ?_)
        refine s_op (o_assign (v := (.int .i64 ((k : Int) + 1))) rfl ?_)
        refine s_nil ?_
        have hH57 : Has E { w46 with drawn := w46.drawn + 1 } [sb, s8, [Hp.one b2 (.cells #[v_H, v_L] 86 (0, 0))], R] := ((((hH50.front 4 rfl).front 4 rfl).front 4 rfl).front 4 rfl).first 4 rfl
        refine t_norm ⟨L.length - (k + 1), _, rfl, ?_, ?_⟩
        · omega
        · exact ⟨(k + 1), vb, sb, ob, rfl, hH57, (by omega), (hob), (by first | omega | (simp only [List.length_append, List.length_cons, List.length_nil]; omega)), (eR_no hfb (show L[k]? = some _ from hx42) h56), e28_0, e28_1, e28_2, e28_3, e28_4, e28_5, rfl, e28_18⟩
      · -- not: x41.key ≠ x26
        refine wp_skip ?_
        refine t_norm (hK48 _ _ ?_)
        refine wp_seq_k fun K58 hK58 => ?_
        refine wp_seq_k fun K59 hK59 => ?_
        refine c_region ?_
        refine s_op (o_assign (v := (.int .i64 0)) rfl ?_)
        refine s_nil ?_
        refine t_norm (hK59 _ _ ?_)
        refine wp_block ?_
        let I61 : Nat → (Nat → Value) → World → Prop := fun n__ r__ w__ => ∃ (j : Nat) (vc : Value) (sc : List Hp) (oc : List (Int × Int)), n__ = H.length - j ∧ Has E w__ [sc, [Hp.one b43 (.cells #[(.int .i64 x41.own), (S x41.key), (.bool x41.wr)] 183 (0, 0))], s8, [Hp.one b2 (.cells #[v_H, v_L] 86 (0, 0))], R] ∧ (j ≤ H.length) ∧ (Own 187 2 vc oc.length (oc.flatMap tmC) sc) ∧ (oc.length ≤ ob.length + j) ∧ (oc = ob ++ ((H.take j).filter (badC x41)).map (fun q => (x41.own, q.own))) ∧ r__ 0 = (.agg #[v_H, v_L]) ∧ r__ 1 = (.pointer (some ⟨b2, 0, none⟩)) ∧ r__ 2 = (.slice none 0 0) ∧ r__ 3 = vc ∧ r__ 4 = v7 ∧ r__ 5 = (.int .i64 (a : Int)) ∧ r__ 6 = (.int .i64 (k : Int)) ∧ r__ 7 = (.pointer (some ⟨b43, 0, none⟩)) ∧ r__ 8 = (.int .i64 (j : Int)) ∧ r__ 18 = (.bool (decide ((a : Int) < (((keysR L).length : Nat) : Int)))) ∧ r__ 25 = (.bool (decide ((k : Int) < ((L.length : Nat) : Int)))) ∧ r__ 39 = (.bool (decide (x41.key ≠ x26)))
        have hH62 : Has E { w46 with drawn := w46.drawn + 1 } [sb, [Hp.one b43 (.cells #[(.int .i64 x41.own), (S x41.key), (.bool x41.wr)] 183 (0, 0))], s8, [Hp.one b2 (.cells #[v_H, v_L] 86 (0, 0))], R] := (((((hH50.front 4 rfl).front 4 rfl).front 4 rfl).front 3 rfl).front 4 rfl).first 5 rfl
        refine c_loop I61 _ ⟨0, vb, sb, ob, rfl, hH62, Nat.zero_le _, hob, (by omega), (by simp), e28_0, e28_1, e28_2, e28_3, e28_4, e28_5, e28_6, rfl, rfl, e28_18, rfl, rfl⟩ ?_
        rintro n_ r65 w63 ⟨j, vc, sc, oc, rfl, hH64, hj, hoc, hlc, hfc, e60_0, e60_1, e60_2, e60_3, e60_4, e60_5, e60_6, e60_7, e60_8, e60_18, e60_25, e60_39⟩
        refine wp_seq_k fun K66 hK66 => ?_
        refine wp_seq_k fun K67 hK67 => ?_
        refine c_region ?_
        refine s_op (o_move (v := (.int .i64 (j : Int))) e60_8 ?_)
        refine s_op (o_fieldAddr (k := 0) (fun _ => by kernel_rfl) e60_1 ?_)
        refine s_op (o_load1 (v := v_H) Try.underlying84 rfl rfl hH64 (seg_sub 3 rfl) (CellsAt.one rfl) ?_)
        refine s_op (o_lenS Try.underlying84 rfl h_H ?_)
        refine s_op (o_lss (a := (j : Int)) (b := ((H.length : Nat) : Int)) rfl rfl ?_)
        refine s_nil ?_
        refine t_norm (hK67 _ _ ?_)
        refine c_cond rfl (fun h68 => ?_) (fun h68 => ?_)
        · -- (j : Int) < ((H.length : Nat) : Int)
          refine wp_skip ?_
          refine t_norm (hK66 _ _ ?_)
          refine wp_seq_k fun K69 hK69 => ?_
          refine wp_block ?_
          refine wp_seq_k fun K70 hK70 => ?_
          refine c_region ?_
          refine s_op (o_fieldAddr (k := 0) (fun _ => by kernel_rfl) e60_1 ?_)
          refine s_op (o_load1 (v := v_H) Try.underlying84 rfl rfl hH64 (seg_sub 3 rfl) (CellsAt.one rfl) ?_)
          refine s_op (o_move (v := (.int .i64 (j : Int))) e60_8 ?_)
          obtain ⟨x74, hx75⟩ : ∃ x_, H[((j : Int)).toNat]? = some x_ := get_some (by omega)
          refine s_op (o_indexF rcC_len Try.underlying84 ti183 rfl h_H rfl rfl (by omega) hx75 fun b71 o72 hc73 => ?_)
          refine s_op (o_loadN (cs := [(.int .i64 x74.own), (S x74.key), (.bool x74.wr)]) Try.underlying183 rfl ti183 rfl hH64 (seg_sub 4 rfl) hc73 ?_)
          refine s_op (o_alloc (cs := #[(.int .i64 0), (S ([] : List UInt8)), (.bool false)]) ti183 rfl hH64 fun b76 w77 hH78 => ?_)
          refine s_eff (o_storeN (vs := [(.int .i64 x74.own), (S x74.key), (.bool x74.wr)]) (c' := #[(.int .i64 x74.own), (S x74.key), (.bool x74.wr)]) ti183 rfl rfl rfl rfl (by intro u hu; simp only [List.mem_cons, List.not_mem_nil, or_false] at hu; rcases hu with rfl | rfl | rfl <;> first | rfl) (by simp) (by kernel_rfl) (hH78.front 0 rfl) fun w79 hH80 => ?_)
          refine s_nil ?_
          refine t_norm (hK70 _ _ ?_)
          refine wp_seq_k fun K81 hK81 => ?_
          refine c_region ?_
          refine s_op (o_fieldAddr (k := 1) (fun _ => by kernel_rfl) rfl ?_)
          refine s_op (o_load1 (v := (S x74.key)) Try.underlying9 rfl rfl hH80 (seg_sub 0 rfl) (CellsAt.one rfl) ?_)
          refine s_op (o_fieldAddr (k := 1) (fun _ => by kernel_rfl) e60_7 ?_)
          refine s_op (o_load1 (v := (S x41.key)) Try.underlying9 rfl rfl hH80 (seg_sub 2 rfl) (CellsAt.one rfl) ?_)
          refine s_op (o_seql (a := x74.key) (b := x41.key) rfl rfl ?_)
          refine s_op (o_move (v := (.bool (decide (x74.key = x41.key)))) rfl ?_)
          by_cases h82 : x74.key = x41.key
          · -- x74.key = x41.key
            refine s_on 57 rfl (congrArg Value.bool (decide_eq_true h82)) (o_fieldAddr (k := 0) (fun _ => by kernel_rfl) rfl ?_)
            refine s_on 57 rfl (congrArg Value.bool (decide_eq_true h82)) (o_load1 (v := (.int .i64 x74.own)) Try.underlying3 rfl rfl hH80 (seg_sub 0 rfl) (CellsAt.one rfl) ?_)
            refine s_on 57 rfl (congrArg Value.bool (decide_eq_true h82)) (o_fieldAddr (k := 0) (fun _ => by kernel_rfl) e60_7 ?_)
            refine s_on 57 rfl (congrArg Value.bool (decide_eq_true h82)) (o_load1 (v := (.int .i64 x41.own)) Try.underlying3 rfl rfl hH80 (seg_sub 2 rfl) (CellsAt.one rfl) ?_)
            refine s_on 57 rfl (congrArg Value.bool (decide_eq_true h82)) (o_neq (a := x74.own) (b := x41.own) rfl rfl ?_)
            refine s_op (o_pick_t (u := (.bool (decide (x74.own ≠ x41.own)))) ((rfl : _ = _).trans (congrArg Value.bool (decide_eq_true h82))) rfl ?_)
            refine s_op (o_move (v := (.bool (decide (x74.own ≠ x41.own)))) rfl ?_)
            by_cases h83 : x74.own ≠ x41.own
            · -- x74.own ≠ x41.own
              refine s_on 64 rfl (congrArg Value.bool (decide_eq_true h83)) (o_fieldAddr (k := 2) (fun _ => by kernel_rfl) rfl ?_)
              refine s_on 64 rfl (congrArg Value.bool (decide_eq_true h83)) (o_load1 (v := (.bool x74.wr)) Try.underlying4 rfl rfl hH80 (seg_sub 0 rfl) (CellsAt.one rfl) ?_)
              refine s_on 64 rfl (congrArg Value.bool (decide_eq_true h83)) (o_move (v := (.bool x74.wr)) rfl ?_)
              rcases Bool.eq_false_or_eq_true x74.wr with h84 | h84
              · -- x74.wr
                refine s_off (b' := true) 67 rfl (congrArg Value.bool h84) rfl ?_
                refine s_off (b' := true) 67 rfl (congrArg Value.bool h84) rfl ?_
                refine s_on 64 rfl (congrArg Value.bool (decide_eq_true h83)) (o_pick_t (u := (.bool true)) ((rfl : _ = _).trans (congrArg Value.bool h84)) rfl ?_)
                refine s_op (o_pick_t (u := (.bool true)) ((rfl : _ = _).trans (congrArg Value.bool (decide_eq_true h83))) rfl ?_)
                refine s_nil ?_
                refine t_norm (hK81 _ _ ?_)
                refine c_true rfl rfl ?_
                refine c_region ?_
                refine s_op (o_move (v := vc) e60_3 ?_)
                refine s_op (o_fieldAddr (k := 0) (fun _ => by kernel_rfl) e60_7 ?_)
                refine s_op (o_load1 (v := (.int .i64 x41.own)) Try.underlying3 rfl rfl hH80 (seg_sub 2 rfl) (CellsAt.one rfl) ?_)
                refine s_op (o_fieldAddr (k := 0) (fun _ => by kernel_rfl) rfl ?_)
                refine s_op (o_load1 (v := (.int .i64 x74.own)) Try.underlying3 rfl rfl hH80 (seg_sub 0 rfl) (CellsAt.one rfl) ?_)
                refine s_op (o_sight (v := (.agg #[(.int .i64 x41.own), (.int .i64 x74.own)])) (fun _ => by kernel_rfl) ?_)
                refine s_op (o_buildSlice (ps := #[(0, (.agg #[(.int .i64 x41.own), (.int .i64 x74.own)]))]) (cells := #[(.int .i64 x41.own), (.int .i64 x74.own)]) Try.underlying185 ti187 (by decide) (parts1 rfl) (by kernel_rfl) hH80 fun b85 w86 hH87 => ?_)
                refine s_op (o_append Try.underlying185 ti187 rfl (by decide) rfl hoc rfl (sl_litF (f := tmC) (l := [(x41.own, x74.own)]) tmC_len rfl rfl (by simp)) (hH87.front 2 rfl) (seg_sub 0 rfl) (one_tm _) (by simp; omega) (by simp; omega) fun v88 s89 w91 ho90 hH92 => ?_)
                have ho90 : Own 187 2 v88 (oc ++ [(x41.own, x74.own)]).length ((oc ++ [(x41.own, x74.own)]).flatMap tmC) s89 := ho90.appF
                refine s_op (o_assign (v := v88) rfl ?_)
                refine s_nil ?_
                refine b_norm ?_
                refine t_norm (hK69 _ _ ?_)
                refine c_region ?_
                refine s_op (o_move (v := (.int .i64 (j : Int))) e60_8 ?_)
                refine s_op (o_add (a := (j : Int)) (b := 1) rfl rfl (w64 (by omega) (by omega)) ?_)
                refine s_op (o_assign (v := (.int .i64 ((j : Int) + 1))) rfl ?_)
                refine s_nil ?_
                have hH93 : Has E w91 [s89, [Hp.one b43 (.cells #[(.int .i64 x41.own), (S x41.key), (.bool x41.wr)] 183 (0, 0))], s8, [Hp.one b2 (.cells #[v_H, v_L] 86 (0, 0))], R] := (((((hH92.front 6 rfl).front 6 rfl).front 6 rfl).front 6 rfl).front 4 rfl).first 5 rfl
                refine t_norm ⟨H.length - (j + 1), _, rfl, ?_, ?_⟩
                · omega
                · exact ⟨(j + 1), v88, s89, (oc ++ [(x41.own, x74.own)]), rfl, hH93, (by omega), (ho90), (by first | omega | (simp only [List.length_append, List.length_cons, List.length_nil]; omega)), (fC_step hfc (show H[j]? = some _ from hx75) (by simp [badC, keyIs, clashS, h82, h83, h84])), e60_0, e60_1, e60_2, rfl, e60_4, e60_5, e60_6, e60_7, rfl, e60_18, e60_25, e60_39⟩
              · -- not: x74.wr
                refine s_on 67 rfl (congrArg Value.bool h84) (o_fieldAddr (k := 2) (fun _ => by kernel_rfl) e60_7 ?_)
                refine s_on 67 rfl (congrArg Value.bool h84) (o_load1 (v := (.bool x41.wr)) Try.underlying4 rfl rfl hH80 (seg_sub 2 rfl) (CellsAt.one rfl) ?_)
                refine s_on 64 rfl (congrArg Value.bool (decide_eq_true h83)) (o_pick_f (u := (.bool x41.wr)) ((rfl : _ = _).trans (congrArg Value.bool h84)) rfl ?_)
                refine s_op (o_pick_t (u := (.bool x41.wr)) ((rfl : _ = _).trans (congrArg Value.bool (decide_eq_true h83))) rfl ?_)
                refine s_nil ?_
                refine t_norm (hK81 _ _ ?_)
                refine c_condb rfl (fun h94 => ?_) (fun h94 => ?_)
                · -- x41.wr
                  refine c_region ?_
                  refine s_op (o_move (v := vc) e60_3 ?_)
                  refine s_op (o_fieldAddr (k := 0) (fun _ => by kernel_rfl) e60_7 ?_)
                  refine s_op (o_load1 (v := (.int .i64 x41.own)) Try.underlying3 rfl rfl hH80 (seg_sub 2 rfl) (CellsAt.one rfl) ?_)
                  refine s_op (o_fieldAddr (k := 0) (fun _ => by kernel_rfl) rfl ?_)
                  refine s_op (o_load1 (v := (.int .i64 x74.own)) Try.underlying3 rfl rfl hH80 (seg_sub 0 rfl) (CellsAt.one rfl) ?_)
                  refine s_op (o_sight (v := (.agg #[(.int .i64 x41.own), (.int .i64 x74.own)])) (fun _ => by kernel_rfl) ?_)
                  refine s_op (o_buildSlice (ps := #[(0, (.agg #[(.int .i64 x41.own), (.int .i64 x74.own)]))]) (cells := #[(.int .i64 x41.own), (.int .i64 x74.own)]) Try.underlying185 ti187 (by decide) (parts1 rfl) (by kernel_rfl) hH80 fun b95 w96 hH97 => ?_)
                  refine s_op (o_append Try.underlying185 ti187 rfl (by decide) rfl hoc rfl (sl_litF (f := tmC) (l := [(x41.own, x74.own)]) tmC_len rfl rfl (by simp)) (hH97.front 2 rfl) (seg_sub 0 rfl) (one_tm _) (by simp; omega) (by simp; omega) fun v98 s99 w101 ho100 hH102 => ?_)
                  have ho100 : Own 187 2 v98 (oc ++ [(x41.own, x74.own)]).length ((oc ++ [(x41.own, x74.own)]).flatMap tmC) s99 := ho100.appF
                  refine s_op (o_assign (v := v98) rfl ?_)
                  refine s_nil ?_
                  refine b_norm ?_
                  refine t_norm (hK69 _ _ ?_)
                  refine c_region ?_
                  refine s_op (o_move (v := (.int .i64 (j : Int))) e60_8 ?_)
                  refine s_op (o_add (a := (j : Int)) (b := 1) rfl rfl (w64 (by omega) (by omega)) ?_)
                  refine s_op (o_assign (v := (.int .i64 ((j : Int) + 1))) rfl ?_)
                  refine s_nil ?_
                  have hH103 : Has E w101 [s99, [Hp.one b43 (.cells #[(.int .i64 x41.own), (S x41.key), (.bool x41.wr)] 183 (0, 0))], s8, [Hp.one b2 (.cells #[v_H, v_L] 86 (0, 0))], R] := (((((hH102.front 6 rfl).front 6 rfl).front 6 rfl).front 6 rfl).front 4 rfl).first 5 rfl
                  refine t_norm ⟨H.length - (j + 1), _, rfl, ?_, ?_⟩
                  · omega
                  · exact ⟨(j + 1), v98, s99, (oc ++ [(x41.own, x74.own)]), rfl, hH103, (by omega), (ho100), (by first | omega | (simp only [List.length_append, List.length_cons, List.length_nil]; omega)), (fC_step hfc (show H[j]? = some _ from hx75) (by simp [badC, keyIs, clashS, h82, h83, h84, h94])), e60_0, e60_1, e60_2, rfl, e60_4, e60_5, e60_6, e60_7, rfl, e60_18, e60_25, e60_39⟩
                · -- not: x41.wr
                  refine wp_skip ?_
                  refine b_norm ?_
                  refine t_norm (hK69 _ _ ?_)
                  refine c_region ?_
                  refine s_op (o_move (v := (.int .i64 (j : Int))) e60_8 ?_)
                  refine s_op (o_add (a := (j : Int)) (b := 1) rfl rfl (w64 (by omega) (by omega)) ?_)
                  refine s_op (o_assign (v := (.int .i64 ((j : Int) + 1))) rfl ?_)
                  refine s_nil ?_
                  have hH104 : Has E w79 [sc, [Hp.one b43 (.cells #[(.int .i64 x41.own), (S x41.key), (.bool x41.wr)] 183 (0, 0))], s8, [Hp.one b2 (.cells #[v_H, v_L] 86 (0, 0))], R] := (((((hH80.front 5 rfl).front 5 rfl).front 5 rfl).front 5 rfl).front 5 rfl).first 5 rfl
                  refine t_norm ⟨H.length - (j + 1), _, rfl, ?_, ?_⟩
                  · omega
                  · exact ⟨(j + 1), vc, sc, oc, rfl, hH104, (by omega), (hoc), (by first | omega | (simp only [List.length_append, List.length_cons, List.length_nil]; omega)), (fC_skip hfc (show H[j]? = some _ from hx75) (by simp [badC, keyIs, clashS, h82, h83, h84, h94])), e60_0, e60_1, e60_2, e60_3, e60_4, e60_5, e60_6, e60_7, rfl, e60_18, e60_25, e60_39⟩
            · -- not: x74.own ≠ x41.own
              refine s_off (b' := false) 64 rfl (congrArg Value.bool (decide_eq_false h83)) rfl ?_
              refine s_off (b' := false) 64 rfl (congrArg Value.bool (decide_eq_false h83)) rfl ?_
              refine s_off (b' := false) 64 rfl (congrArg Value.bool (decide_eq_false h83)) rfl ?_
              refine s_offu 67 rfl rfl ?_
              refine s_offu 67 rfl rfl ?_
              refine s_off (b' := false) 64 rfl (congrArg Value.bool (decide_eq_false h83)) rfl ?_
              refine s_op (o_pick_f (u := (.bool false)) ((rfl : _ = _).trans (congrArg Value.bool (decide_eq_false h83))) rfl ?_)
              refine s_nil ?_
              refine t_norm (hK81 _ _ ?_)
              refine c_false rfl rfl ?_
              refine wp_skip ?_
              refine b_norm ?_
              refine t_norm (hK69 _ _ ?_)
              refine c_region ?_
              refine s_op (o_move (v := (.int .i64 (j : Int))) e60_8 ?_)
              refine s_op (o_add (a := (j : Int)) (b := 1) rfl rfl (w64 (by omega) (by omega)) ?_)
              refine s_op (o_assign (v := (.int .i64 ((j : Int) + 1))) rfl ?_)
              refine s_nil ?_
              have hH105 : Has E w79 [sc, [Hp.one b43 (.cells #[(.int .i64 x41.own), (S x41.key), (.bool x41.wr)] 183 (0, 0))], s8, [Hp.one b2 (.cells #[v_H, v_L] 86 (0, 0))], R] := (((((hH80.front 5 rfl).front 5 rfl).front 5 rfl).front 5 rfl).front 5 rfl).first 5 rfl
              refine t_norm ⟨H.length - (j + 1), _, rfl, ?_, ?_⟩
              · omega
              · exact ⟨(j + 1), vc, sc, oc, rfl, hH105, (by omega), (hoc), (by first | omega | (simp only [List.length_append, List.length_cons, List.length_nil]; omega)), (fC_skip hfc (show H[j]? = some _ from hx75) (by simp [badC, keyIs, clashS, h82, h83])), e60_0, e60_1, e60_2, e60_3, e60_4, e60_5, e60_6, e60_7, rfl, e60_18, e60_25, e60_39⟩
          · -- not: x74.key = x41.key
            refine s_off (b' := false) 57 rfl (congrArg Value.bool (decide_eq_false h82)) rfl ?_
            refine s_off (b' := false) 57 rfl (congrArg Value.bool (decide_eq_false h82)) rfl ?_
            refine s_off (b' := false) 57 rfl (congrArg Value.bool (decide_eq_false h82)) rfl ?_
            refine s_off (b' := false) 57 rfl (congrArg Value.bool (decide_eq_false h82)) rfl ?_
            refine s_off (b' := false) 57 rfl (congrArg Value.bool (decide_eq_false h82)) rfl ?_
            refine s_op (o_pick_f (u := (.bool false)) ((rfl : _ = _).trans (congrArg Value.bool (decide_eq_false h82))) rfl ?_)
            refine s_op (o_move (v := (.bool false)) rfl ?_)
            refine s_off (b' := false) 64 rfl rfl rfl ?_
            refine s_off (b' := false) 64 rfl rfl rfl ?_
            refine s_off (b' := false) 64 rfl rfl rfl ?_
            refine s_offu 67 rfl rfl ?_
            refine s_offu 67 rfl rfl ?_
            refine s_off (b' := false) 64 rfl rfl rfl ?_
            refine s_op (o_pick_f (u := (.bool false)) rfl rfl ?_)
            refine s_nil ?_
            refine t_norm (hK81 _ _ ?_)
            refine c_false rfl rfl ?_
            refine wp_skip ?_
            refine b_norm ?_
            refine t_norm (hK69 _ _ ?_)
            refine c_region ?_
            refine s_op (o_move (v := (.int .i64 (j : Int))) e60_8 ?_)
            refine s_op (o_add (a := (j : Int)) (b := 1) rfl rfl (w64 (by omega) (by omega)) ?_)
            refine s_op (o_assign (v := (.int .i64 ((j : Int) + 1))) rfl ?_)
            refine s_nil ?_
            have hH106 : Has E w79 [sc, [Hp.one b43 (.cells #[(.int .i64 x41.own), (S x41.key), (.bool x41.wr)] 183 (0, 0))], s8, [Hp.one b2 (.cells #[v_H, v_L] 86 (0, 0))], R] := (((((hH80.front 5 rfl).front 5 rfl).front 5 rfl).front 5 rfl).front 5 rfl).first 5 rfl
            refine t_norm ⟨H.length - (j + 1), _, rfl, ?_, ?_⟩
            · omega
            · exact ⟨(j + 1), vc, sc, oc, rfl, hH106, (by omega), (hoc), (by first | omega | (simp only [List.length_append, List.length_cons, List.length_nil]; omega)), (fC_skip hfc (show H[j]? = some _ from hx75) (by simp [badC, keyIs, clashS, h82])), e60_0, e60_1, e60_2, e60_3, e60_4, e60_5, e60_6, e60_7, rfl, e60_18, e60_25, e60_39⟩
        · -- not: (j : Int) < ((H.length : Nat) : Int)
          refine wp_exit ?_
          refine t_exit (t_exit (x_in (?_)))
          refine t_norm (hK58 _ _ ?_)
          refine wp_seq_k fun K107 hK107 => ?_
          refine c_region ?_
          refine s_op (o_assign (v := (.int .i64 0)) rfl ?_)
          refine s_nil ?_
          refine t_norm (hK107 _ _ ?_)
          refine wp_block ?_
          let I109 : Nat → (Nat → Value) → World → Prop := fun n__ r__ w__ => ∃ (i : Nat) (vd : Value) (sd : List Hp) (od : List (Int × Int)), n__ = k - i ∧ Has E w__ [sd, [Hp.one b43 (.cells #[(.int .i64 x41.own), (S x41.key), (.bool x41.wr)] 183 (0, 0))], s8, [Hp.one b2 (.cells #[v_H, v_L] 86 (0, 0))], R] ∧ (i ≤ k) ∧ (Own 187 2 vd od.length (od.flatMap tmC) sd) ∧ (od.length ≤ oc.length + i) ∧ (od = oc ++ ((L.take i).filter (badC x41)).map (fun q => (x41.own, q.own))) ∧ r__ 0 = (.agg #[v_H, v_L]) ∧ r__ 1 = (.pointer (some ⟨b2, 0, none⟩)) ∧ r__ 2 = (.slice none 0 0) ∧ r__ 3 = vd ∧ r__ 4 = v7 ∧ r__ 5 = (.int .i64 (a : Int)) ∧ r__ 6 = (.int .i64 (k : Int)) ∧ r__ 7 = (.pointer (some ⟨b43, 0, none⟩)) ∧ r__ 8 = (.int .i64 (j : Int)) ∧ r__ 10 = (.int .i64 (i : Int)) ∧ r__ 18 = (.bool (decide ((a : Int) < (((keysR L).length : Nat) : Int)))) ∧ r__ 25 = (.bool (decide ((k : Int) < ((L.length : Nat) : Int)))) ∧ r__ 39 = (.bool (decide (x41.key ≠ x26))) ∧ r__ 44 = (.bool (decide ((j : Int) < ((H.length : Nat) : Int))))
          refine c_loop I109 _ ⟨0, vc, sc, oc, rfl, hH64, Nat.zero_le _, hoc, (by omega), (by simp), e60_0, e60_1, e60_2, e60_3, e60_4, e60_5, e60_6, e60_7, e60_8, rfl, e60_18, e60_25, e60_39, rfl⟩ ?_
          rintro n_ r112 w110 ⟨i, vd, sd, od, rfl, hH111, hi, hod, hld, hfd, e108_0, e108_1, e108_2, e108_3, e108_4, e108_5, e108_6, e108_7, e108_8, e108_10, e108_18, e108_25, e108_39, e108_44⟩
          refine wp_seq_k fun K113 hK113 => ?_
          refine wp_seq_k fun K114 hK114 => ?_
          refine c_region ?_
          refine s_op (o_move (v := (.int .i64 (i : Int))) e108_10 ?_)
          refine s_op (o_move (v := (.int .i64 (k : Int))) e108_6 ?_)
          refine s_op (o_lss (a := (i : Int)) (b := (k : Int)) rfl rfl ?_)
          refine s_nil ?_
          refine t_norm (hK114 _ _ ?_)
          refine c_cond rfl (fun h115 => ?_) (fun h115 => ?_)
          · -- (i : Int) < (k : Int)
            refine wp_skip ?_
            refine t_norm (hK113 _ _ ?_)
            refine wp_seq_k fun K116 hK116 => ?_
            refine wp_block ?_
            refine wp_seq_k fun K117 hK117 => ?_
            refine c_region ?_
            refine s_op (o_fieldAddr (k := 1) (fun _ => by kernel_rfl) e108_1 ?_)
            refine s_op (o_load1 (v := v_L) Try.underlying84 rfl rfl hH111 (seg_sub 3 rfl) (CellsAt.one rfl) ?_)
            refine s_op (o_move (v := (.int .i64 (i : Int))) e108_10 ?_)
            obtain ⟨x121, hx122⟩ : ∃ x_, L[((i : Int)).toNat]? = some x_ := get_some (by omega)
            refine s_op (o_indexF rcC_len Try.underlying84 ti183 rfl h_L rfl rfl (by omega) hx122 fun b118 o119 hc120 => ?_)
            refine s_op (o_loadN (cs := [(.int .i64 x121.own), (S x121.key), (.bool x121.wr)]) Try.underlying183 rfl ti183 rfl hH111 (seg_sub 4 rfl) hc120 ?_)
            refine s_op (o_alloc (cs := #[(.int .i64 0), (S ([] : List UInt8)), (.bool false)]) ti183 rfl hH111 fun b123 w124 hH125 => ?_)
            refine s_eff (o_storeN (vs := [(.int .i64 x121.own), (S x121.key), (.bool x121.wr)]) (c' := #[(.int .i64 x121.own), (S x121.key), (.bool x121.wr)]) ti183 rfl rfl rfl rfl (by intro u hu; simp only [List.mem_cons, List.not_mem_nil, or_false] at hu; rcases hu with rfl | rfl | rfl <;> first | rfl) (by simp) (by kernel_rfl) (hH125.front 0 rfl) fun w126 hH127 => ?_)
            refine s_nil ?_
            refine t_norm (hK117 _ _ ?_)
            refine wp_seq_k fun K128 hK128 => ?_
            refine c_region ?_
            refine s_op (o_fieldAddr (k := 1) (fun _ => by kernel_rfl) rfl ?_)
            refine s_op (o_load1 (v := (S x121.key)) Try.underlying9 rfl rfl hH127 (seg_sub 0 rfl) (CellsAt.one rfl) ?_)
            refine s_op (o_fieldAddr (k := 1) (fun _ => by kernel_rfl) e108_7 ?_)
            refine s_op (o_load1 (v := (S x41.key)) Try.underlying9 rfl rfl hH127 (seg_sub 2 rfl) (CellsAt.one rfl) ?_)
            refine s_op (o_seql (a := x121.key) (b := x41.key) rfl rfl ?_)
            refine s_op (o_move (v := (.bool (decide (x121.key = x41.key)))) rfl ?_)
            by_cases h129 : x121.key = x41.key
            · -- x121.key = x41.key
              refine s_on 95 rfl (congrArg Value.bool (decide_eq_true h129)) (o_fieldAddr (k := 0) (fun _ => by kernel_rfl) rfl ?_)
              refine s_on 95 rfl (congrArg Value.bool (decide_eq_true h129)) (o_load1 (v := (.int .i64 x121.own)) Try.underlying3 rfl rfl hH127 (seg_sub 0 rfl) (CellsAt.one rfl) ?_)
              refine s_on 95 rfl (congrArg Value.bool (decide_eq_true h129)) (o_fieldAddr (k := 0) (fun _ => by kernel_rfl) e108_7 ?_)
              refine s_on 95 rfl (congrArg Value.bool (decide_eq_true h129)) (o_load1 (v := (.int .i64 x41.own)) Try.underlying3 rfl rfl hH127 (seg_sub 2 rfl) (CellsAt.one rfl) ?_)
              refine s_on 95 rfl (congrArg Value.bool (decide_eq_true h129)) (o_neq (a := x121.own) (b := x41.own) rfl rfl ?_)
              refine s_op (o_pick_t (u := (.bool (decide (x121.own ≠ x41.own)))) ((rfl : _ = _).trans (congrArg Value.bool (decide_eq_true h129))) rfl ?_)
              refine s_op (o_move (v := (.bool (decide (x121.own ≠ x41.own)))) rfl ?_)
              by_cases h130 : x121.own ≠ x41.own
              · -- x121.own ≠ x41.own
                refine s_on 102 rfl (congrArg Value.bool (decide_eq_true h130)) (o_fieldAddr (k := 2) (fun _ => by kernel_rfl) rfl ?_)
                refine s_on 102 rfl (congrArg Value.bool (decide_eq_true h130)) (o_load1 (v := (.bool x121.wr)) Try.underlying4 rfl rfl hH127 (seg_sub 0 rfl) (CellsAt.one rfl) ?_)
                refine s_on 102 rfl (congrArg Value.bool (decide_eq_true h130)) (o_move (v := (.bool x121.wr)) rfl ?_)
                rcases Bool.eq_false_or_eq_true x121.wr with h131 | h131
                · -- x121.wr
                  refine s_off (b' := true) 105 rfl (congrArg Value.bool h131) rfl ?_
                  refine s_off (b' := true) 105 rfl (congrArg Value.bool h131) rfl ?_
                  refine s_on 102 rfl (congrArg Value.bool (decide_eq_true h130)) (o_pick_t (u := (.bool true)) ((rfl : _ = _).trans (congrArg Value.bool h131)) rfl ?_)
                  refine s_op (o_pick_t (u := (.bool true)) ((rfl : _ = _).trans (congrArg Value.bool (decide_eq_true h130))) rfl ?_)
                  refine s_nil ?_
                  refine t_norm (hK128 _ _ ?_)
                  refine c_true rfl rfl ?_
                  refine c_region ?_
                  refine s_op (o_move (v := vd) e108_3 ?_)
                  refine s_op (o_fieldAddr (k := 0) (fun _ => by kernel_rfl) e108_7 ?_)
                  refine s_op (o_load1 (v := (.int .i64 x41.own)) Try.underlying3 rfl rfl hH127 (seg_sub 2 rfl) (CellsAt.one rfl) ?_)
                  refine s_op (o_fieldAddr (k := 0) (fun _ => by kernel_rfl) rfl ?_)
                  refine s_op (o_load1 (v := (.int .i64 x121.own)) Try.underlying3 rfl rfl hH127 (seg_sub 0 rfl) (CellsAt.one rfl) ?_)
                  refine s_op (o_sight (v := (.agg #[(.int .i64 x41.own), (.int .i64 x121.own)])) (fun _ => by kernel_rfl) ?_)
                  refine s_op (o_buildSlice (ps := #[(0, (.agg #[(.int .i64 x41.own), (.int .i64 x121.own)]))]) (cells := #[(.int .i64 x41.own), (.int .i64 x121.own)]) Try.underlying185 ti187 (by decide) (parts1 rfl) (by kernel_rfl) hH127 fun b132 w133 hH134 => ?_)
                  refine s_op (o_append Try.underlying185 ti187 rfl (by decide) rfl hod rfl (sl_litF (f := tmC) (l := [(x41.own, x121.own)]) tmC_len rfl rfl (by simp)) (hH134.front 2 rfl) (seg_sub 0 rfl) (one_tm _) (by simp; omega) (by simp; omega) fun v135 s136 w138 ho137 hH139 => ?_)
                  have ho137 : Own 187 2 v135 (od ++ [(x41.own, x121.own)]).length ((od ++ [(x41.own, x121.own)]).flatMap tmC) s136 := ho137.appF
                  refine s_op (o_assign (v := v135) rfl ?_)
                  refine s_nil ?_
                  refine b_norm ?_
                  refine t_norm (hK116 _ _ ?_)
                  refine c_region ?_
                  refine s_op (o_move (v := (.int .i64 (i : Int))) e108_10 ?_)
                  refine s_op (o_add (a := (i : Int)) (b := 1) rfl rfl (w64 (by omega) (by omega)) ?_)
                  refine s_op (o_assign (v := (.int .i64 ((i : Int) + 1))) rfl ?_)
                  refine s_nil ?_
                  have hH140 : Has E w138 [s136, [Hp.one b43 (.cells #[(.int .i64 x41.own), (S x41.key), (.bool x41.wr)] 183 (0, 0))], s8, [Hp.one b2 (.cells #[v_H, v_L] 86 (0, 0))], R] := (((((hH139.front 6 rfl).front 6 rfl).front 6 rfl).front 6 rfl).front 4 rfl).first 5 rfl
                  refine t_norm ⟨k - (i + 1), _, rfl, ?_, ?_⟩
                  · omega
                  · exact ⟨(i + 1), v135, s136, (od ++ [(x41.own, x121.own)]), rfl, hH140, (by omega), (ho137), (by first | omega | (simp only [List.length_append, List.length_cons, List.length_nil]; omega)), (fC_step hfd (show L[i]? = some _ from hx122) (by simp [badC, keyIs, clashS, h129, h130, h131])), e108_0, e108_1, e108_2, rfl, e108_4, e108_5, e108_6, e108_7, e108_8, rfl, e108_18, e108_25, e108_39, e108_44⟩
                · -- not: x121.wr
                  refine s_on 105 rfl (congrArg Value.bool h131) (o_fieldAddr (k := 2) (fun _ => by kernel_rfl) e108_7 ?_)
                  refine s_on 105 rfl (congrArg Value.bool h131) (o_load1 (v := (.bool x41.wr)) Try.underlying4 rfl rfl hH127 (seg_sub 2 rfl) (CellsAt.one rfl) ?_)
                  refine s_on 102 rfl (congrArg Value.bool (decide_eq_true h130)) (o_pick_f (u := (.bool x41.wr)) ((rfl : _ = _).trans (congrArg Value.bool h131)) rfl ?_)
                  refine s_op (o_pick_t (u := (.bool x41.wr)) ((rfl : _ = _).trans (congrArg Value.bool (decide_eq_true h130))) rfl ?_)
                  refine s_nil ?_
                  refine t_norm (hK128 _ _ ?_)
                  refine c_condb rfl (fun h141 => ?_) (fun h141 => ?_)
                  · -- x41.wr
                    refine c_region ?_
                    refine s_op (o_move (v := vd) e108_3 ?_)
                    refine s_op (o_fieldAddr (k := 0) (fun _ => by kernel_rfl) e108_7 ?_)
                    refine s_op (o_load1 (v := (.int .i64 x41.own)) Try.underlying3 rfl rfl hH127 (seg_sub 2 rfl) (CellsAt.one rfl) ?_)
                    refine s_op (o_fieldAddr (k := 0) (fun _ => by kernel_rfl) rfl ?_)
                    refine s_op (o_load1 (v := (.int .i64 x121.own)) Try.underlying3 rfl rfl hH127 (seg_sub 0 rfl) (CellsAt.one rfl) ?_)
                    refine s_op (o_sight (v := (.agg #[(.int .i64 x41.own), (.int .i64 x121.own)])) (fun _ => by kernel_rfl) ?_)
                    refine s_op (o_buildSlice (ps := #[(0, (.agg #[(.int .i64 x41.own), (.int .i64 x121.own)]))]) (cells := #[(.int .i64 x41.own), (.int .i64 x121.own)]) Try.underlying185 ti187 (by decide) (parts1 rfl) (by kernel_rfl) hH127 fun b142 w143 hH144 => ?_)
                    refine s_op (o_append Try.underlying185 ti187 rfl (by decide) rfl hod rfl (sl_litF (f := tmC) (l := [(x41.own, x121.own)]) tmC_len rfl rfl (by simp)) (hH144.front 2 rfl) (seg_sub 0 rfl) (one_tm _) (by simp; omega) (by simp; omega) fun v145 s146 w148 ho147 hH149 => ?_)
                    have ho147 : Own 187 2 v145 (od ++ [(x41.own, x121.own)]).length ((od ++ [(x41.own, x121.own)]).flatMap tmC) s146 := ho147.appF
                    refine s_op (o_assign (v := v145) rfl ?_)
                    refine s_nil ?_
                    refine b_norm ?_
                    refine t_norm (hK116 _ _ ?_)
                    refine c_region ?_
                    refine s_op (o_move (v := (.int .i64 (i : Int))) e108_10 ?_)
                    refine s_op (o_add (a := (i : Int)) (b := 1) rfl rfl (w64 (by omega) (by omega)) ?_)
                    refine s_op (o_assign (v := (.int .i64 ((i : Int) + 1))) rfl ?_)
                    refine s_nil ?_
                    have hH150 : Has E w148 [s146, [Hp.one b43 (.cells #[(.int .i64 x41.own), (S x41.key), (.bool x41.wr)] 183 (0, 0))], s8, [Hp.one b2 (.cells #[v_H, v_L] 86 (0, 0))], R] := (((((hH149.front 6 rfl).front 6 rfl).front 6 rfl).front 6 rfl).front 4 rfl).first 5 rfl
                    refine t_norm ⟨k - (i + 1), _, rfl, ?_, ?_⟩
                    · omega
                    · exact ⟨(i + 1), v145, s146, (od ++ [(x41.own, x121.own)]), rfl, hH150, (by omega), (ho147), (by first | omega | (simp only [List.length_append, List.length_cons, List.length_nil]; omega)), (fC_step hfd (show L[i]? = some _ from hx122) (by simp [badC, keyIs, clashS, h129, h130, h131, h141])), e108_0, e108_1, e108_2, rfl, e108_4, e108_5, e108_6, e108_7, e108_8, rfl, e108_18, e108_25, e108_39, e108_44⟩
                  · -- not: x41.wr
                    refine wp_skip ?_
                    refine b_norm ?_
                    refine t_norm (hK116 _ _ ?_)
                    refine c_region ?_
                    refine s_op (o_move (v := (.int .i64 (i : Int))) e108_10 ?_)
                    refine s_op (o_add (a := (i : Int)) (b := 1) rfl rfl (w64 (by omega) (by omega)) ?_)
                    refine s_op (o_assign (v := (.int .i64 ((i : Int) + 1))) rfl ?_)
                    refine s_nil ?_
                    have hH151 : Has E w126 [sd, [Hp.one b43 (.cells #[(.int .i64 x41.own), (S x41.key), (.bool x41.wr)] 183 (0, 0))], s8, [Hp.one b2 (.cells #[v_H, v_L] 86 (0, 0))], R] := (((((hH127.front 5 rfl).front 5 rfl).front 5 rfl).front 5 rfl).front 5 rfl).first 5 rfl
                    refine t_norm ⟨k - (i + 1), _, rfl, ?_, ?_⟩
                    · omega
                    · exact ⟨(i + 1), vd, sd, od, rfl, hH151, (by omega), (hod), (by first | omega | (simp only [List.length_append, List.length_cons, List.length_nil]; omega)), (fC_skip hfd (show L[i]? = some _ from hx122) (by simp [badC, keyIs, clashS, h129, h130, h131, h141])), e108_0, e108_1, e108_2, e108_3, e108_4, e108_5, e108_6, e108_7, e108_8, rfl, e108_18, e108_25, e108_39, e108_44⟩
              · -- not: x121.own ≠ x41.own
                refine s_off (b' := false) 102 rfl (congrArg Value.bool (decide_eq_false h130)) rfl ?_
                refine s_off (b' := false) 102 rfl (congrArg Value.bool (decide_eq_false h130)) rfl ?_
                refine s_off (b' := false) 102 rfl (congrArg Value.bool (decide_eq_false h130)) rfl ?_
                refine s_offu 105 rfl rfl ?_
                refine s_offu 105 rfl rfl ?_
                refine s_off (b' := false) 102 rfl (congrArg Value.bool (decide_eq_false h130)) rfl ?_
                refine s_op (o_pick_f (u := (.bool false)) ((rfl : _ = _).trans (congrArg Value.bool (decide_eq_false h130))) rfl ?_)
                refine s_nil ?_
                refine t_norm (hK128 _ _ ?_)
                refine c_false rfl rfl ?_
                refine wp_skip ?_
                refine b_norm ?_
                refine t_norm (hK116 _ _ ?_)
                refine c_region ?_
                refine s_op (o_move (v := (.int .i64 (i : Int))) e108_10 ?_)
                refine s_op (o_add (a := (i : Int)) (b := 1) rfl rfl (w64 (by omega) (by omega)) ?_)
                refine s_op (o_assign (v := (.int .i64 ((i : Int) + 1))) rfl ?_)
                refine s_nil ?_
                have hH152 : Has E w126 [sd, [Hp.one b43 (.cells #[(.int .i64 x41.own), (S x41.key), (.bool x41.wr)] 183 (0, 0))], s8, [Hp.one b2 (.cells #[v_H, v_L] 86 (0, 0))], R] := (((((hH127.front 5 rfl).front 5 rfl).front 5 rfl).front 5 rfl).front 5 rfl).first 5 rfl
                refine t_norm ⟨k - (i + 1), _, rfl, ?_, ?_⟩
                · omega
                · exact ⟨(i + 1), vd, sd, od, rfl, hH152, (by omega), (hod), (by first | omega | (simp only [List.length_append, List.length_cons, List.length_nil]; omega)), (fC_skip hfd (show L[i]? = some _ from hx122) (by simp [badC, keyIs, clashS, h129, h130])), e108_0, e108_1, e108_2, e108_3, e108_4, e108_5, e108_6, e108_7, e108_8, rfl, e108_18, e108_25, e108_39, e108_44⟩
            · -- not: x121.key = x41.key
              refine s_off (b' := false) 95 rfl (congrArg Value.bool (decide_eq_false h129)) rfl ?_
              refine s_off (b' := false) 95 rfl (congrArg Value.bool (decide_eq_false h129)) rfl ?_
              refine s_off (b' := false) 95 rfl (congrArg Value.bool (decide_eq_false h129)) rfl ?_
              refine s_off (b' := false) 95 rfl (congrArg Value.bool (decide_eq_false h129)) rfl ?_
              refine s_off (b' := false) 95 rfl (congrArg Value.bool (decide_eq_false h129)) rfl ?_
              refine s_op (o_pick_f (u := (.bool false)) ((rfl : _ = _).trans (congrArg Value.bool (decide_eq_false h129))) rfl ?_)
              refine s_op (o_move (v := (.bool false)) rfl ?_)
              refine s_off (b' := false) 102 rfl rfl rfl ?_
              refine s_off (b' := false) 102 rfl rfl rfl ?_
              refine s_off (b' := false) 102 rfl rfl rfl ?_
              refine s_offu 105 rfl rfl ?_
              refine s_offu 105 rfl rfl ?_
              refine s_off (b' := false) 102 rfl rfl rfl ?_
              refine s_op (o_pick_f (u := (.bool false)) rfl rfl ?_)
              refine s_nil ?_
              refine t_norm (hK128 _ _ ?_)
              refine c_false rfl rfl ?_
              refine wp_skip ?_
              refine b_norm ?_
              refine t_norm (hK116 _ _ ?_)
              refine c_region ?_
              refine s_op (o_move (v := (.int .i64 (i : Int))) e108_10 ?_)
              refine s_op (o_add (a := (i : Int)) (b := 1) rfl rfl (w64 (by omega) (by omega)) ?_)
              refine s_op (o_assign (v := (.int .i64 ((i : Int) + 1))) rfl ?_)
              refine s_nil ?_
              have hH153 : Has E w126 [sd, [Hp.one b43 (.cells #[(.int .i64 x41.own), (S x41.key), (.bool x41.wr)] 183 (0, 0))], s8, [Hp.one b2 (.cells #[v_H, v_L] 86 (0, 0))], R] := (((((hH127.front 5 rfl).front 5 rfl).front 5 rfl).front 5 rfl).front 5 rfl).first 5 rfl
              refine t_norm ⟨k - (i + 1), _, rfl, ?_, ?_⟩
              · omega
              · exact ⟨(i + 1), vd, sd, od, rfl, hH153, (by omega), (hod), (by first | omega | (simp only [List.length_append, List.length_cons, List.length_nil]; omega)), (fC_skip hfd (show L[i]? = some _ from hx122) (by simp [badC, keyIs, clashS, h129])), e108_0, e108_1, e108_2, e108_3, e108_4, e108_5, e108_6, e108_7, e108_8, rfl, e108_18, e108_25, e108_39, e108_44⟩
          · -- not: (i : Int) < (k : Int)
            refine wp_exit ?_
            refine t_exit (t_exit (x_in (?_)))
            refine b_norm ?_
            refine t_norm (hK36 _ _ ?_)
            refine c_region ?_
            refine s_op (o_move (v := (.int .i64 (k : Int))) e108_6 ?_)
            refine s_op (o_add (a := (k : Int)) (b := 1) rfl rfl (w64 (by omega) (by omega)) ?_)
            refine s_op (o_assign (v := (.int .i64 ((k : Int) + 1))) rfl ?_)
            refine s_nil ?_
            have hH154 : Has E w110 [sd, s8, [Hp.one b2 (.cells #[v_H, v_L] 86 (0, 0))], R] := ((((hH111.front 4 rfl).front 4 rfl).front 4 rfl).front 3 rfl).first 4 rfl
            refine t_norm ⟨L.length - (k + 1), _, rfl, ?_, ?_⟩
            · omega
            · exact ⟨(k + 1), vd, sd, od, rfl, hH154, (by omega), (hod), (by first | omega | (simp only [List.length_append, List.length_cons, List.length_nil]; omega)), (eR_yes (c := oc) hfb (show L[k]? = some _ from hx42) (Classical.not_not.1 h56) (by (have e_ : j = H.length := by omega); rw [e_, List.take_length] at hfc; exact hfc) (by (have e_ : i = k := by omega); rw [e_] at hfd; exact hfd)), e108_0, e108_1, e108_2, e108_3, e108_4, e108_5, rfl, e108_18⟩
    · -- not: (k : Int) < ((L.length : Nat) : Int)
      refine wp_exit ?_
      refine t_exit (t_exit (x_in (?_)))
      refine b_norm ?_
      refine t_norm (hK24 _ _ ?_)
      refine c_region ?_
      refine s_op (o_move (v := (.int .i64 (a : Int))) e28_5 ?_)
      refine s_op (o_add (a := (a : Int)) (b := 1) rfl rfl (w64 (by omega) (by omega)) ?_)
      refine s_op (o_assign (v := (.int .i64 ((a : Int) + 1))) rfl ?_)
      refine s_nil ?_
      refine t_norm ⟨(keysR L).length - (a + 1), _, rfl, ?_, ?_⟩
      · omega
      · exact ⟨(a + 1), vb, sb, ob, rfl, hH31, (by omega), (hob), (by omega), (eK_step hfa (show (keysR L)[a]? = some _ from hx27) (by (have e_ : k = L.length := by omega); rw [hfb, e_, List.take_length])), e28_0, e28_1, e28_2, e28_3, e28_4, rfl⟩
  · -- not: (a : Int) < (((keysR L).length : Nat) : Int)
    refine wp_exit ?_
    refine t_exit (t_exit (x_in (?_)))
    refine t_norm (hK13 _ _ ?_)
    refine wp_seq_k fun K155 hK155 => ?_
    refine c_region ?_
    refine s_op (o_move (v := va) e15_3 ?_)
    refine s_op (o_assign (v := va) rfl ?_)
    refine s_nil ?_
    refine t_norm (hK155 _ _ ?_)
    refine wp_ret ?_
    refine c_ret1 Try.results103  (v := va) rfl ?_
    have q156 : (edgesR H L) = oa := by (have he_ : a = (keysR L).length := by omega); rw [edgesR_eq, hfa, he_, List.take_length]
    have hH157 : Has E w18 [sa, R] := ((hH19.front 3 rfl).front 1 rfl).first 2 rfl
    exact ⟨_, _, rfl, (by rw [q156]; exact hoa), hH157⟩
end Go.Q
namespace Go.Q
structure EntI (k : Bs) (e : Ent) (ow : List Int) : Prop where
  key : ∀ q ∈ e.hold ++ e.line, q.key = k
  own : ∀ q ∈ e.hold ++ e.line, q.own ∈ ow
  safe : ∀ a ∈ e.hold, ∀ b ∈ e.hold, clashS a b = false
def LkI (t : Tab) (ow : List Int) : Prop := ∀ p ∈ t, EntI p.1 p.2 ow
theorem EntI.empty (k : Bs) (ow : List Int) : EntI k ⟨[], []⟩ ow := ⟨by simp, by simp, by simp⟩
theorem EntI.mono {k : Bs} {e : Ent} {ow ow' : List Int} (h : EntI k e ow) (hs : ∀ x ∈ ow, x ∈ ow') : EntI k e ow' := ⟨h.key, fun q hq => hs _ (h.own q hq), h.safe⟩
theorem LkI.mono {t : Tab} {ow ow' : List Int} (h : LkI t ow) (hs : ∀ x ∈ ow, x ∈ ow') : LkI t ow' := fun p hp => (h p hp).mono hs
theorem LkI.get {t : Tab} {ow : List Int} (h : LkI t ow) (k : Bs) : EntI k (entOf t k) ow := by
  cases hg : getB t k with
  | none => rw [ent_none hg]; exact EntI.empty k ow
  | some e => rw [ent_some hg]; exact h _ (getB_memp hg)
theorem clash_self (p : Plc) : clashS p p = false := by simp [clashS]
theorem mem_holdS {h : List Plc} {p q : Plc} (hq : q ∈ holdS h p) : q ∈ h ∨ q = p := by
  unfold holdS at hq; split at hq
  · exact List.mem_or_eq_of_mem_set hq
  · simpa using hq
theorem mem_waitS {h l : List Plc} {p q : Plc} (hq : q ∈ waitS h l p) : q ∈ l ∨ q = p := by
  unfold waitS insAt at hq
  split at hq
  · simpa using hq
  · split at hq
    · simpa using hq
    · rcases List.mem_append.1 hq with g | g
      · rcases List.mem_append.1 g with g | g
        · exact .inl (List.mem_of_mem_take g)
        · exact .inr (List.mem_singleton.1 g)
      · exact .inl (List.mem_of_mem_drop g)
theorem free_all {h : List Plc} {p : Plc} (hf : freeS h p = true) {q : Plc} (hq : q ∈ h) : clashS p q = false := by
  unfold freeS at hf
  simp only [Bool.not_eq_true', List.any_eq_false] at hf
  simpa using hf q hq
theorem EntI.hold {k : Bs} {e : Ent} {ow : List Int} (h : EntI k e ow) {p : Plc} (hk : p.key = k) (ho : p.own ∈ ow) (hf : freeS e.hold p = true) {l : List Plc} (hl : ∀ q ∈ l, q ∈ e.line) : EntI k ⟨holdS e.hold p, l⟩ ow := by
  refine ⟨fun q hq => ?_, fun q hq => ?_, fun a ha b hb => ?_⟩
  · rcases List.mem_append.1 hq with g | g
    · rcases mem_holdS g with g | g
      · exact h.key q (List.mem_append_left _ g)
      · rw [g]; exact hk
    · exact h.key q (List.mem_append_right _ (hl q g))
  · rcases List.mem_append.1 hq with g | g
    · rcases mem_holdS g with g | g
      · exact h.own q (List.mem_append_left _ g)
      · rw [g]; exact ho
    · exact h.own q (List.mem_append_right _ (hl q g))
  · rcases mem_holdS ha with g | g <;> rcases mem_holdS hb with g' | g'
    · exact h.safe a g b g'
    · rw [g', clash_comm]; exact free_all hf g
    · rw [g]; exact free_all hf g'
    · rw [g, g']; exact clash_self p
theorem EntI.ask {k : Bs} {e : Ent} {ow : List Int} (h : EntI k e ow) {p : Plc} (hk : p.key = k) (ho : p.own ∈ ow) : EntI k (askE e p).1 ow := by
  unfold askE
  split
  · exact h
  · split
    · rename_i g; exact h.hold hk ho g.1 fun q hq => hq
    · refine ⟨fun q hq => ?_, fun q hq => ?_, h.safe⟩
      · rcases List.mem_append.1 hq with g | g
        · exact h.key q (List.mem_append_left _ g)
        · rcases mem_waitS g with g | g
          · exact h.key q (List.mem_append_right _ g)
          · rw [g]; exact hk
      · rcases List.mem_append.1 hq with g | g
        · exact h.own q (List.mem_append_left _ g)
        · rcases mem_waitS g with g | g
          · exact h.own q (List.mem_append_right _ g)
          · rw [g]; exact ho
theorem EntI.grant {k : Bs} {ow : List Int} : ∀ (l h : List Plc), EntI k ⟨h, l⟩ ow → EntI k ⟨(grantS h l).2.1, (grantS h l).2.2⟩ ow
  | [], h, he => he
  | p :: t, h, he => by
    rw [grantS]
    split
    · rename_i g
      exact EntI.grant t (holdS h p) (he.hold (e := ⟨h, p :: t⟩) (he.key p (by simp)) (he.own p (by simp)) g fun q hq => List.mem_cons_of_mem _ hq)
    · exact he
theorem EntI.left {k : Bs} {e : Ent} {ow : List Int} (h : EntI k e ow) (all : Bool) (fr : List Int) : EntI k ⟨(leftE all fr e).2.1, (leftE all fr e).2.2⟩ ow := by
  unfold leftE
  refine EntI.grant _ _ ?_
  have hs : ∀ q ∈ (if all = true then e.hold.filter (fun p => !goneS fr p) else e.hold), q ∈ e.hold := fun q hq => by
    split at hq
    · exact (List.mem_filter.1 hq).1
    · exact hq
  refine ⟨fun q hq => ?_, fun q hq => ?_, fun a ha b hb => h.safe a (hs a ha) b (hs b hb)⟩
  · rcases List.mem_append.1 hq with g | g
    · exact h.key q (List.mem_append_left _ (hs q g))
    · exact h.key q (List.mem_append_right _ (List.mem_filter.1 g).1)
  · rcases List.mem_append.1 hq with g | g
    · exact h.own q (List.mem_append_left _ (hs q g))
    · exact h.own q (List.mem_append_right _ (List.mem_filter.1 g).1)
theorem LkI.ask {t : Tab} {ow : List Int} (h : LkI t ow) {o : Int} {k : Bs} {wr : Bool} (ho : o ∈ ow) : LkI (askS t o k wr).1 ow := by
  unfold askS; split
  · exact h
  · split
    · exact h
    · intro p hp
      rcases mem_putB hp with g | g
      · exact h p g
      · rw [g]; exact (h.get k).ask rfl ho
theorem LkI.leave {t : Tab} {ow : List Int} (h : LkI t ow) (hd : (t.map (·.1)).Nodup) {all : Bool} {fr : List Int} : LkI (leaveS all fr t).1 ow := by
  refine leave_ind (fun t => LkI t ow) (fun t k e h he => ?_) h hd
  have h1 : LkI (putB t k (⟨(leftE all fr e).2.1, (leftE all fr e).2.2⟩ : Ent)) ow := fun p hp => by
    rcases mem_putB hp with g | g
    · exact h p g
    · rw [g]; exact (h _ (getB_memp he)).left all fr
  unfold setE; split
  · exact fun p hp => h1 p (mem_delB hp)
  · exact h1
theorem mem_holds {t : Tab} {o : Int} {x : Bs × Bool} (hx : x ∈ holdsC t o) : ∃ k q, q ∈ (entOf t k).hold ∧ q.own = o ∧ x = (q.key, q.wr) := by
  unfold holdsC at hx
  obtain ⟨k, _, hk⟩ := List.mem_filterMap.1 hx
  unfold holdC at hk
  obtain ⟨q, hq, e⟩ := Option.map_eq_some_iff.1 hk
  exact ⟨k, q, List.mem_of_find?_eq_some hq, by simpa [ownIs] using List.find?_some hq, e.symm⟩
theorem safe1 {t : Tab} {ow : List Int} (h : LkI t ow) {a b : Int} {x y : Bs × Bool} (hx : x ∈ holdsC t a) (hy : y ∈ holdsC t b) (hne : a ≠ b) (hk : x.1 = y.1) : x.2 = false ∧ y.2 = false := by
  obtain ⟨k, p, hp, hpo, rfl⟩ := mem_holds hx
  obtain ⟨k', q, hq, hqo, rfl⟩ := mem_holds hy
  have e1 := (h.get k).key p (List.mem_append_left _ hp)
  have e2 := (h.get k').key q (List.mem_append_left _ hq)
  have e3 : k = k' := by rw [← e1, ← e2]; exact hk
  subst e3
  have := (h.get k).safe p hp q hq
  unfold clashS at this
  rw [decide_eq_true (show p.own ≠ q.own by rw [hpo, hqo]; exact hne)] at this
  simpa using this
theorem safe2 {t : Tab} {ow : List Int} (h : LkI t ow) (hs : LkS t) {o : Int} {p : Plc} (hw : waitsS t o = some p) : ∃ b ∈ ow, ∃ y ∈ holdsC t b, y.1 = p.key := by
  unfold waitsS at hw
  obtain ⟨k, hk, hf⟩ := List.exists_of_findSome?_eq_some hw
  have hp := List.mem_of_find?_eq_some hf
  obtain ⟨e, he⟩ := Option.isSome_iff_exists.1 (getB_mem.2 (names_mem.1 hk))
  have hst := (hs _ (getB_memp he)).1
  have hg := h.get k
  rw [ent_some he] at hp hg
  obtain ⟨q, hq⟩ := List.exists_mem_of_ne_nil _ hst
  have hqo := hg.own q (List.mem_append_left _ hq)
  refine ⟨q.own, hqo, ?_⟩
  have hfi : ∃ z, e.hold.find? (ownIs q.own) = some z := by
    cases hz : e.hold.find? (ownIs q.own) with
    | some z => exact ⟨z, rfl⟩
    | none => rw [List.find?_eq_none] at hz; exact absurd (hz q hq) (by simp [ownIs])
  obtain ⟨z, hz⟩ := hfi
  refine ⟨(z.key, z.wr), ?_, ?_⟩
  · unfold holdsC
    exact List.mem_filterMap.2 ⟨k, hk, by unfold holdC; rw [ent_some he, hz]; rfl⟩
  · show z.key = p.key
    rw [hg.key z (List.mem_append_left _ (List.mem_of_find?_eq_some hz)), hg.key p (List.mem_append_right _ hp)]
/-- None of these is in any entry. -/
def Freed (t : Tab) (fr : List Int) : Prop := ∀ p ∈ t, ∀ q ∈ p.2.hold ++ p.2.line, q.own ∉ fr
theorem mem_grant : ∀ (l h : List Plc) (q : Plc), q ∈ (grantS h l).2.1 ++ (grantS h l).2.2 → q ∈ h ++ l
  | [], h, q, hq => hq
  | p :: t, h, q, hq => by
    rw [grantS] at hq
    split at hq
    · have := mem_grant t (holdS h p) q hq
      rcases List.mem_append.1 this with g | g
      · rcases mem_holdS g with g | g
        · exact List.mem_append_left _ g
        · rw [g]; simp
      · exact List.mem_append_right _ (List.mem_cons_of_mem _ g)
    · exact hq
theorem mem_left {all : Bool} {fr : List Int} {e : Ent} {q : Plc} (hq : q ∈ (leftE all fr e).2.1 ++ (leftE all fr e).2.2) : q ∈ e.hold ++ e.line ∧ (all = true → q.own ∉ fr) := by
  unfold leftE at hq
  have := mem_grant _ _ _ hq
  rcases List.mem_append.1 this with g | g
  · split at g
    · have := List.mem_filter.1 g
      exact ⟨List.mem_append_left _ this.1, fun _ => by simpa [goneS] using this.2⟩
    · rename_i ha; exact ⟨List.mem_append_left _ g, fun h => absurd h ha⟩
  · have := List.mem_filter.1 g
    exact ⟨List.mem_append_right _ this.1, fun _ => by simpa [goneS] using this.2⟩
theorem nodup_get {κ β : Type} [DecidableEq κ] {k : κ} {v : β} : ∀ {l : List (κ × β)}, (l.map (·.1)).Nodup → (k, v) ∈ l → getB l k = some v
  | [], _, h => by cases h
  | (a, x) :: t, hn, h => by
    have hn' := List.nodup_cons.1 hn
    rw [getB]
    rcases List.mem_cons.1 h with e | e
    · cases e; rw [if_pos rfl]
    · rw [if_neg (fun g => hn'.1 (List.mem_map.2 ⟨(k, v), e, g⟩))]; exact nodup_get hn'.2 e
/-- What is in the entries of a table that is left. -/
theorem leaveF_mem {all : Bool} {fr : List Int} : ∀ (ks : List Bs) (t : Tab), ks.Nodup → (t.map (·.1)).Nodup → (∀ y ∈ ks, (getB t y).isSome = true) → ∀ p ∈ (leaveF all fr t ks).1, ∃ e, (p.1, e) ∈ t ∧ (p.1 ∉ ks → p.2 = e) ∧ (p.1 ∈ ks → ∀ q ∈ p.2.hold ++ p.2.line, q ∈ e.hold ++ e.line ∧ (all = true → q.own ∉ fr))
  | [], t, _, _, _, p, hp => ⟨p.2, hp, fun _ => rfl, fun h => by cases h⟩
  | k :: ks, t, hn, hd, hi, p, hp => by
    obtain ⟨e0, he0⟩ := Option.isSome_iff_exists.1 (hi k (List.mem_cons_self ..))
    have hn' := List.nodup_cons.1 hn
    rw [leaveF, ent_some he0] at hp
    have hks : ∀ y ∈ ks, (getB (setE t k ⟨(leftE all fr e0).2.1, (leftE all fr e0).2.2⟩) y).isSome = true := fun y hy =>
      leave_keep (y := y) (x := k) (b := (leftE all fr e0).2.1 = []) (fun g => hn'.1 (by rw [← g]; exact hy)) (hi y (List.mem_cons_of_mem _ hy)) hd (by unfold setE; rfl)
    obtain ⟨e, h1, h2, h3⟩ := leaveF_mem ks _ hn'.2 (set_nodup hd he0) hks p hp
    have hmem : (p.1, e) ∈ putB t k (⟨(leftE all fr e0).2.1, (leftE all fr e0).2.2⟩ : Ent) := by
      unfold setE at h1; split at h1
      · exact mem_delB h1
      · exact h1
    by_cases hk : p.1 = k
    · have hpk : p.1 ∉ ks := by rw [hk]; exact hn'.1
      have hp2 := h2 hpk
      rcases mem_putB hmem with g | g
      · -- the old entry: another one stands under k now
        have hp1 : ((putB t k (⟨(leftE all fr e0).2.1, (leftE all fr e0).2.2⟩ : Ent)).map (·.1)).Nodup := by rw [putB_keys, if_pos (getB_mem.1 (by rw [he0]; rfl))]; exact hd
        have e1 : getB (putB t k (⟨(leftE all fr e0).2.1, (leftE all fr e0).2.2⟩ : Ent)) k = some e := nodup_get hp1 (by have h9 := hmem; rw [hk] at h9; exact h9)
        rw [getB_put, if_pos rfl] at e1
        cases e1
        refine ⟨e0, by rw [hk]; exact getB_memp he0, fun g' => absurd (by rw [hk]; simp) g', fun _ q hq => ?_⟩
        rw [hp2] at hq; exact mem_left hq
      · cases g
        refine ⟨e0, by rw [hk]; exact getB_memp he0, fun g' => absurd (by rw [hk]; simp) g', fun _ q hq => ?_⟩
        rw [hp2] at hq; exact mem_left hq
    · rcases mem_putB hmem with g | g
      · exact ⟨e, g, fun g' => h2 fun g2 => g' (List.mem_cons_of_mem _ g2), fun g' => h3 ((List.mem_cons.1 g').resolve_left hk)⟩
      · cases g; exact absurd rfl hk
theorem Freed.leave {t : Tab} {fr : List Int} (h : Freed t fr) (hd : (t.map (·.1)).Nodup) {o : Int} : Freed (leaveS true [o] t).1 (fr ++ [o]) := by
  intro p hp q hq
  obtain ⟨e, h1, h2, h3⟩ := leaveF_mem (namesS t) t (names_nodup hd) hd (fun y hy => getB_mem.2 (names_mem.1 hy)) p hp
  have hm : p.1 ∈ namesS t := names_mem.2 (List.mem_map.2 ⟨_, h1, rfl⟩)
  obtain ⟨h4, h5⟩ := h3 hm q hq
  intro hf
  rcases List.mem_append.1 hf with g | g
  · exact h _ h1 q h4 g
  · exact h5 rfl g
theorem freed_nil {t : Tab} {ow : List Int} (hf : Freed t ow) (hi : LkI t ow) (hs : LkS t) : t = [] := by
  cases t with
  | nil => rfl
  | cons p t =>
    obtain ⟨q, hq⟩ := List.exists_mem_of_ne_nil _ (hs p (by simp)).1
    exact absurd ((hi p (by simp)).own q (List.mem_append_left _ hq)) (hf p (by simp) q (List.mem_append_left _ hq))
theorem edges_nil : edgesS [] = [] := by simp [edgesS, namesS]
end Go.Q
namespace Go.Q
theorem sorted_nodup {l : List Int} (h : l.Pairwise (· < ·)) : l.Nodup := h.imp fun hlt e => by omega
theorem sm_next {sm : Bool} {W : Prop} {O : List Int} {t : Tab} {b k : Nat} {z : Int} {c : Bs} (h : sm = true ∨ ((W ∧ ∀ j, j < b → ∀ z, O[j]? = some z → ∀ y ∈ holdsC t z, y.1 ≠ c) ∧ ∀ y ∈ (holdsC t z).take k, y.1 ≠ c)) (hk : k = (holdsC t z).length) (hz : O[b]? = some z) :
    sm = true ∨ (W ∧ ∀ j, j < b + 1 → ∀ z, O[j]? = some z → ∀ y ∈ holdsC t z, y.1 ≠ c) := by
  refine h.imp id fun ⟨⟨h1, h2⟩, h3⟩ => ⟨h1, fun j hj z' hz' => ?_⟩
  rcases Nat.lt_or_ge j b with g | g
  · exact h2 j g z' hz'
  · obtain rfl : j = b := by omega
    rw [hz] at hz'; cases hz'
    rw [hk, List.take_length] at h3; exact h3
theorem safe_end {sm : Bool} {O : List Int} {t : Tab} {b : Nat} {o : Int} (hi : LkI t O) (hs : LkS t) (h : sm = true ∨ ((waitsS t o).isSome = true ∧ ∀ j, j < b → ∀ z, O[j]? = some z → ∀ y ∈ holdsC t z, y.1 ≠ (((waitsS t o).map (·.key)).getD []))) (hb : b = O.length) : (!sm) = false := by
  rcases h with h | ⟨h1, h2⟩
  · rw [h]; rfl
  · obtain ⟨p, hp⟩ := Option.isSome_iff_exists.1 h1
    obtain ⟨z, hz, y, hy, hk⟩ := safe2 hi hs hp
    obtain ⟨j, hj⟩ := List.getElem?_of_mem hz
    have hlt := (List.getElem?_eq_some_iff.1 hj).1
    exact absurd (by rw [hp]; exact hk) (h2 j (by omega) z hj y hy)
end Go.Q
namespace Go.Q
/-! a row's first that is so: put in its place, put ahead of it, taken away -/
def repl {α : Type} (q : α → Bool) (c : α) : List α → List α
  | [] => [c]
  | x :: t => if q x = true then c :: t else x :: repl q c t
def insF {α : Type} (q : α → Bool) (c : α) : List α → List α
  | [] => [c]
  | x :: t => if q x = true then c :: x :: t else x :: insF q c t
theorem idxG_cons {α : Type} (c : α → Bool) (x : α) (t : List α) : idxG c (x :: t) = if c x = true then 0 else if 0 ≤ idxG c t then idxG c t + 1 else -1 := by
  unfold idxG
  rw [List.findIdx?_cons]
  cases h : c x with
  | true => simp
  | false =>
    cases e : t.findIdx? c with
    | none => simp
    | some i => simp
theorem repl_eq {α : Type} (q : α → Bool) (c : α) : ∀ l : List α, (if 0 ≤ idxG q l then l.set (idxG q l).toNat c else l ++ [c]) = repl q c l
  | [] => by simp [idxG, repl]
  | x :: t => by
    rw [repl, ← repl_eq q c t, idxG_cons]
    by_cases h : q x = true
    · rw [if_pos h, if_pos h]; simp
    · rw [if_neg h, if_neg h]
      by_cases g : 0 ≤ idxG q t
      · rw [if_pos g, if_pos g, if_pos (by omega), show (idxG q t + 1).toNat = (idxG q t).toNat + 1 from by omega]; rfl
      · rw [if_neg g, if_neg g, if_neg (by omega)]; rfl
theorem insF_eq {α : Type} (q : α → Bool) (c : α) : ∀ l : List α, insAt l ((l.findIdx? q).getD l.length) c = insF q c l
  | [] => by simp [insAt, insF]
  | x :: t => by
    rw [insF, ← insF_eq q c t, List.findIdx?_cons]
    cases h : q x with
    | true => simp [insAt]
    | false =>
      cases e : t.findIdx? q with
      | none => simp [insAt]
      | some i => simp [insAt]
theorem insF_eq' {α : Type} (q : α → Bool) (c : α) (l : List α) : (if idxG q l < 0 then l ++ [c] else insAt l (idxG q l).toNat c) = insF q c l := by
  rw [← insF_eq]
  unfold idxG
  cases e : l.findIdx? q with
  | none => simp [insAt]
  | some i => simp [show ¬ ((i : Int) < 0) from by omega]
theorem erase_eq {α : Type} (q : α → Bool) : ∀ {l : List α}, 0 ≤ idxG q l → l.eraseIdx (idxG q l).toNat = l.eraseP q
  | [], h => rfl
  | x :: t, h => by
    rw [idxG_cons] at h ⊢
    rw [List.eraseP_cons]
    by_cases g : q x = true
    · rw [if_pos g, g]; rfl
    · rw [if_neg g] at h ⊢
      by_cases g2 : 0 ≤ idxG q t
      · rw [if_pos g2, show (idxG q t + 1).toNat = (idxG q t).toNat + 1 from by omega, List.eraseIdx_cons_succ, erase_eq q g2]
        simp [g]
      · rw [if_neg g2] at h; omega
theorem idx_any {α : Type} {q : α → Bool} {l : List α} : 0 ≤ idxG q l ↔ ∃ x ∈ l, q x = true := by
  rw [← decide_eq_true_iff (p := 0 ≤ idxG q l), idxG_any, List.any_eq_true]
theorem idx_get {α : Type} {q : α → Bool} : ∀ {l : List α}, 0 ≤ idxG q l → l[(idxG q l).toNat]? = l.find? q
  | [], h => rfl
  | x :: t, h => by
    rw [idxG_cons] at h ⊢
    by_cases g : q x = true
    · rw [if_pos g, List.find?_cons, g]; rfl
    · rw [if_neg g] at h ⊢
      have g' : q x = false := by simpa using g
      by_cases g2 : 0 ≤ idxG q t
      · rw [if_pos g2, show (idxG q t + 1).toNat = (idxG q t).toNat + 1 from by omega, List.getElem?_cons_succ, idx_get g2, List.find?_cons, g']
      · rw [if_neg g2] at h; omega
/-! of one key -/
theorem keyIs_iff {k : Bs} {p : Plc} : keyIs k p = true ↔ p.key = k := by simp [keyIs]
theorem isC_iff {o : Int} {k : Bs} {p : Plc} : isC o k p = true ↔ p.own = o ∧ p.key = k := by simp [isC, ownIs, keyIs]
theorem holdR_repl (H : List Plc) (c : Plc) : holdR H c = repl (isC c.own c.key) c H := by rw [← repl_eq]; rfl
theorem holdS_repl (h : List Plc) (c : Plc) : holdS h c = repl (ownIs c.own) c h := by rw [← repl_eq]; rfl
theorem repl_fil {o : Int} {k : Bs} {c : Plc} (hk : c.key = k) : ∀ H : List Plc, (repl (isC o k) c H).filter (keyIs k) = repl (ownIs o) c (H.filter (keyIs k))
  | [] => by simp [repl, keyIs, hk]
  | x :: t => by
    have ih := repl_fil (o := o) hk t
    by_cases h1 : x.key = k
    · have e1 : keyIs k x = true := keyIs_iff.2 h1
      by_cases h2 : x.own = o
      · rw [repl, if_pos (isC_iff.2 ⟨h2, h1⟩), List.filter_cons, if_pos (keyIs_iff.2 hk), List.filter_cons, if_pos e1, repl, if_pos (by simp [ownIs, h2])]
      · rw [repl, if_neg (by rw [isC_iff]; exact fun g => h2 g.1), List.filter_cons, if_pos e1, ih, List.filter_cons, if_pos e1, repl, if_neg (by simp [ownIs, h2])]
    · have e1 : ¬ keyIs k x = true := by rw [keyIs_iff]; exact h1
      rw [repl, if_neg (by rw [isC_iff]; exact fun g => h1 g.2), List.filter_cons, if_neg e1, ih, List.filter_cons, if_neg e1]
theorem repl_fil2 {o : Int} {k k2 : Bs} {c : Plc} (hk : c.key = k) (hne : k2 ≠ k) : ∀ H : List Plc, (repl (isC o k) c H).filter (keyIs k2) = H.filter (keyIs k2)
  | [] => by simp [repl, keyIs, hk, Ne.symm hne]
  | x :: t => by
    have ih := repl_fil2 (o := o) hk hne t
    have e2 : ¬ keyIs k2 c = true := by rw [keyIs_iff, hk]; exact Ne.symm hne
    by_cases h : isC o k x = true
    · rw [repl, if_pos h, List.filter_cons, if_neg e2, List.filter_cons, if_neg (by rw [keyIs_iff, (isC_iff.1 h).2]; exact Ne.symm hne)]
    · rw [repl, if_neg h, List.filter_cons, ih, List.filter_cons]
theorem free_fil (H : List Plc) (c : Plc) : freeR H c = freeS (H.filter (keyIs c.key)) c := by
  unfold freeR freeS; rw [List.any_filter]; congr 2; funext h; rw [clash_comm]
theorem find_fil {H : List Plc} {o : Int} {k : Bs} : (H.filter (keyIs k)).find? (ownIs o) = H.find? (isC o k) := by
  rw [List.find?_filter]; congr 1; funext p; simp [isC, Bool.and_comm]
theorem findC_at_iff {H : List Plc} {o : Int} {k : Bs} : 0 ≤ atS (H.filter (keyIs k)) o ↔ 0 ≤ findC H o k := by
  rw [atS_idx, findC_eq, idx_any, idx_any]
  constructor
  · rintro ⟨x, hx, h⟩; rw [List.mem_filter] at hx; exact ⟨x, hx.1, by simp [isC, h, hx.2]⟩
  · rintro ⟨x, hx, h⟩; simp only [isC, Bool.and_eq_true] at h; exact ⟨x, List.mem_filter.2 ⟨hx, h.2⟩, h.1⟩
theorem late_no {H : List Plc} {k : Bs} {x : Plc} (hx : keyIs k x = true) : lateC H k x = noAt (H.filter (keyIs k)) x := by
  unfold lateC noAt
  rw [hx, Bool.true_and, decide_eq_decide]
  have := findC_at_iff (H := H) (o := x.own) (k := k)
  omega
theorem insF_fil {H : List Plc} {k : Bs} {c : Plc} (hk : c.key = k) : ∀ L : List Plc, (insF (lateC H k) c L).filter (keyIs k) = insF (noAt (H.filter (keyIs k))) c (L.filter (keyIs k))
  | [] => by simp [insF, keyIs, hk]
  | x :: t => by
    have ih := insF_fil (H := H) hk t
    have ec : keyIs k c = true := keyIs_iff.2 hk
    by_cases h1 : keyIs k x = true
    · by_cases h2 : lateC H k x = true
      · rw [insF, if_pos h2, List.filter_cons, if_pos ec, List.filter_cons, if_pos h1, insF, if_pos (by rw [← late_no h1]; exact h2)]
      · rw [insF, if_neg h2, List.filter_cons, if_pos h1, ih, List.filter_cons, if_pos h1, insF, if_neg (by rw [← late_no h1]; exact h2)]
    · rw [insF, if_neg (by unfold lateC; simp [h1]), List.filter_cons, if_neg h1, ih, List.filter_cons, if_neg h1]
theorem insAt_fil2 {k k2 : Bs} {c : Plc} (hk : c.key = k) (hne : k2 ≠ k) (L : List Plc) (n : Nat) : (insAt L n c).filter (keyIs k2) = L.filter (keyIs k2) := by
  unfold insAt
  have e2 : keyIs k2 c = false := by rw [Bool.eq_false_iff]; intro g; rw [keyIs_iff, hk] at g; exact hne g.symm
  rw [List.filter_append, List.filter_append, List.filter_cons, e2]
  simp only [Bool.false_eq_true, if_false, List.filter_nil, List.append_nil]
  rw [← List.filter_append, List.take_append_drop]
theorem wait_fil {H L : List Plc} {k : Bs} {wr : Bool} {o : Int} : (insAt L (placeR H L o k) ⟨k, wr, o⟩).filter (keyIs k) = waitS (H.filter (keyIs k)) (L.filter (keyIs k)) ⟨k, wr, o⟩ := by
  unfold waitS placeR
  have hi := findC_at_iff (H := H) (o := o) (k := k)
  by_cases h : 0 ≤ findC H o k
  · rw [if_pos h, if_neg (by have := hi.2 h; show ¬ atS _ o < 0; omega)]
    rw [show (fun q => keyIs k q && decide (findC H q.own k < 0)) = lateC H k from rfl, insF_eq, insF_fil (k := k) (c := ⟨k, wr, o⟩) rfl, ← insF_eq']; rfl
  · rw [if_neg h, if_pos (by have : ¬ 0 ≤ atS (H.filter (keyIs k)) o := fun g => h (hi.1 g); show atS _ o < 0; omega), insAt_end, List.filter_append, List.filter_cons, if_pos (show keyIs k ⟨k, wr, o⟩ = true from keyIs_iff.2 rfl)]; rfl
theorem eraseP_fil (k : Bs) : ∀ L : List Plc, (L.eraseP (keyIs k)).filter (keyIs k) = (L.filter (keyIs k)).drop 1
  | [] => rfl
  | x :: t => by
    rw [List.eraseP_cons]
    cases h : keyIs k x with
    | true => rw [List.filter_cons, if_pos h]; rfl
    | false =>
      rw [List.filter_cons, if_neg (by rw [h]; decide)]
      simp only [cond_false]
      rw [List.filter_cons, if_neg (by rw [h]; decide), eraseP_fil k t]
theorem eraseP_fil2 {k k2 : Bs} (hne : k2 ≠ k) : ∀ L : List Plc, (L.eraseP (keyIs k)).filter (keyIs k2) = L.filter (keyIs k2)
  | [] => rfl
  | x :: t => by
    rw [List.eraseP_cons]
    cases h : keyIs k x with
    | true =>
      have : ¬ keyIs k2 x = true := by rw [keyIs_iff, keyIs_iff.1 h]; exact Ne.symm hne
      rw [List.filter_cons, if_neg this]; rfl
    | false => simp only [cond_false]; rw [List.filter_cons, eraseP_fil2 hne t, List.filter_cons]
theorem find_key {L : List Plc} {k : Bs} : L.find? (keyIs k) = (L.filter (keyIs k))[0]? := by
  rw [← List.head?_eq_getElem?, List.head?_filter]
end Go.Q
namespace Go.Q
/-! what a key's line grants -/
theorem gr_nil {H L : List Plc} {k : Bs} (h : L.filter (keyIs k) = []) : grantR H L k L.length = ([], H, L) :=
  gr_stop (.inl fun g => by
    obtain ⟨x, hx, hk⟩ := idx_any.1 g
    have : x ∈ L.filter (keyIs k) := List.mem_filter.2 ⟨hx, hk⟩
    rw [h] at this; cases this)
structure GrOk (H L : List Plc) (k : Bs) (r : List Int × List Plc × List Plc) : Prop where
  out : r.1 = (grantS (H.filter (keyIs k)) (L.filter (keyIs k))).1
  hold : r.2.1.filter (keyIs k) = (grantS (H.filter (keyIs k)) (L.filter (keyIs k))).2.1
  line : r.2.2.filter (keyIs k) = (grantS (H.filter (keyIs k)) (L.filter (keyIs k))).2.2
  oth : ∀ k2, k2 ≠ k → r.2.1.filter (keyIs k2) = H.filter (keyIs k2) ∧ r.2.2.filter (keyIs k2) = L.filter (keyIs k2)
  sub : r.2.2.Sublist L
  len : r.2.1.length + r.2.2.length ≤ H.length + L.length
theorem gr_ok (k : Bs) : ∀ (n : Nat) (H L : List Plc), L.length = n → GrOk H L k (grantR H L k L.length) := by
  intro n
  induction n with
  | zero =>
    intro H L hn
    have : L = [] := List.eq_nil_of_length_eq_zero hn
    subst this
    exact ⟨rfl, rfl, rfl, fun _ _ => ⟨rfl, rfl⟩, List.Sublist.refl _, Nat.le_refl _⟩
  | succ n ih =>
    intro H L hn
    by_cases hi : 0 ≤ idxG (keyIs k) L
    · have hg := idx_get hi
      rw [find_key] at hg
      have hlt := (idxG_lt (keyIs k) L).2
      obtain ⟨c, hc⟩ : ∃ c, L[(idxG (keyIs k) L).toNat]? = some c := ⟨_, List.getElem?_eq_getElem (by omega)⟩
      rw [hc] at hg
      have hck : c.key = k := keyIs_iff.1 (List.mem_filter.1 (List.mem_of_getElem? hg.symm)).2
      have hf := free_fil H c
      rw [hck] at hf
      by_cases hfr : freeR H c = true
      · have el : (L.eraseIdx (idxG (keyIs k) L).toNat).length = n := by rw [List.length_eraseIdx, if_pos (by omega)]; omega
        have := ih (holdR H c) (L.eraseIdx (idxG (keyIs k) L).toNat) el
        rw [gr_step hi hc hfr]
        have e1 : (holdR H c).filter (keyIs k) = holdS (H.filter (keyIs k)) c := by rw [holdR_repl, holdS_repl, hck, repl_fil hck]
        have e2 : (L.eraseIdx (idxG (keyIs k) L).toNat).filter (keyIs k) = (L.filter (keyIs k)).drop 1 := by rw [erase_eq _ hi, eraseP_fil]
        have e3 := grant_go (h := H.filter (keyIs k)) (l := L.filter (keyIs k)) hg.symm (by rw [← hf]; exact hfr)
        have hl := holdR_len H c
        refine ⟨?_, ?_, ?_, ?_, ?_, ?_⟩
        · show c.own :: _ = _; rw [this.out, e1, e2, e3]
        · show List.filter _ (grantR _ _ _ _).2.1 = _; rw [this.hold, e1, e2, e3]
        · show List.filter _ (grantR _ _ _ _).2.2 = _; rw [this.line, e1, e2, e3]
        · intro k2 hne
          have h2 := this.oth k2 hne
          refine ⟨h2.1.trans ?_, h2.2.trans ?_⟩
          · rw [holdR_repl, hck, repl_fil2 hck hne]
          · rw [erase_eq _ hi, eraseP_fil2 hne]
        · exact this.sub.trans (List.eraseIdx_sublist ..)
        · have := this.len; simp only at this ⊢; omega
      · have hfr' : freeR H c = false := by simpa using hfr
        rw [gr_stop (.inr ⟨c, hi, hc, hfr'⟩)]
        have e3 := grant_stop (h := H.filter (keyIs k)) (l := L.filter (keyIs k)) (.inr ⟨c, hg.symm, by rw [← hf]; exact hfr'⟩)
        exact ⟨by rw [e3], by rw [e3], by rw [e3], fun _ _ => ⟨rfl, rfl⟩, List.Sublist.refl _, Nat.le_refl _⟩
    · rw [gr_stop (.inl hi)]
      have e0 : L.filter (keyIs k) = [] := by
        rw [List.filter_eq_nil_iff]; intro x hx hk; exact hi (idx_any.2 ⟨x, hx, hk⟩)
      have e3 := grant_stop (h := H.filter (keyIs k)) (l := L.filter (keyIs k)) (.inl e0)
      exact ⟨by rw [e3], by rw [e3], by rw [e3], fun _ _ => ⟨rfl, rfl⟩, List.Sublist.refl _, Nat.le_refl _⟩
def grK (H L : List Plc) (k : Bs) : List Int × List Plc × List Plc := grantS (H.filter (keyIs k)) (L.filter (keyIs k))
structure LvOk (H L : List Plc) (ks : List Bs) (r : (List Plc × List Plc) × List Int) : Prop where
  out : r.2 = ks.flatMap fun k => (grK H L k).1
  hold : ∀ k, r.1.1.filter (keyIs k) = if k ∈ ks then (grK H L k).2.1 else H.filter (keyIs k)
  line : ∀ k, r.1.2.filter (keyIs k) = if k ∈ ks then (grK H L k).2.2 else L.filter (keyIs k)
  sub : r.1.2.Sublist L
  len : r.1.1.length + r.1.2.length ≤ H.length + L.length
theorem lv_ok : ∀ (ks : List Bs) (H L : List Plc), ks.Nodup → LvOk H L ks (leaveRF H L ks)
  | [], H, L, _ => ⟨rfl, fun k => by simp [leaveRF], fun k => by simp [leaveRF], List.Sublist.refl _, Nat.le_refl _⟩
  | k :: ks, H, L, hn => by
    have g := gr_ok k _ H L rfl
    have hn2 := List.nodup_cons.1 hn
    have ih := lv_ok ks (grantR H L k L.length).2.1 (grantR H L k L.length).2.2 hn2.2
    have e : ∀ k2, k2 ≠ k → grK (grantR H L k L.length).2.1 (grantR H L k L.length).2.2 k2 = grK H L k2 := fun k2 hne => by unfold grK; rw [(g.oth k2 hne).1, (g.oth k2 hne).2]
    rw [leaveRF]
    refine ⟨?_, ?_, ?_, ?_, ?_⟩
    · show _ ++ _ = _
      rw [g.out, ih.out, List.flatMap_cons]
      congr 1
      rw [List.flatMap_def, List.flatMap_def]; congr 1
      apply List.map_congr_left
      intro k2 hk2
      rw [e k2 (fun h => hn2.1 (h ▸ hk2))]
    · intro k2
      show List.filter _ (leaveRF _ _ ks).1.1 = _
      rw [ih.hold k2]
      by_cases h : k2 = k
      · subst h
        rw [if_neg hn2.1, if_pos (List.mem_cons_self ..), g.hold]; rfl
      · rw [e k2 h, (g.oth k2 h).1]; simp [h]
    · intro k2
      show List.filter _ (leaveRF _ _ ks).1.2 = _
      rw [ih.line k2]
      by_cases h : k2 = k
      · subst h
        rw [if_neg hn2.1, if_pos (List.mem_cons_self ..), g.line]; rfl
      · rw [e k2 h, (g.oth k2 h).2]; simp [h]
    · exact ih.sub.trans g.sub
    · have := ih.len; have := g.len; simp only at *; omega
/-! the table's side -/
theorem entOf_set {t : Tab} (hd : (t.map (·.1)).Nodup) {k : Bs} {e e' : Ent} (hg : getB t k = some e) (he : e'.hold = [] → e'.line = []) (k2 : Bs) : entOf (setE t k e') k2 = if k2 = k then e' else entOf t k2 := by
  unfold setE
  split
  · rename_i h
    have hnd : ((putB t k e').map (·.1)).Nodup := by
      rw [putB_keys, if_pos (getB_mem.1 (by rw [hg]; rfl))]; exact hd
    unfold entOf
    rw [getB_del _ _ _ hnd, getB_put]
    by_cases e2 : k2 = k
    · rw [if_pos e2, if_pos e2]
      cases e' with | mk a b => simp only at h he; rw [h, he h]; rfl
    · rw [if_neg e2, if_neg e2, if_neg e2]
  · unfold entOf
    rw [getB_put]
    by_cases e2 : k2 = k
    · rw [if_pos e2, if_pos e2]; rfl
    · rw [if_neg e2, if_neg e2]
theorem leftE_nil {all : Bool} {ow : List Int} {e : Ent} (h : (leftE all ow e).2.1 = []) : (leftE all ow e).2.2 = [] := by
  rcases grant_stops (e.line.filter (fun p => !goneS ow p)) (if all = true then e.hold.filter (fun p => !goneS ow p) else e.hold) with g | ⟨x, hx, hf⟩
  · exact g
  · unfold leftE at h; rw [h, free_nil] at hf; cases hf
def lfE (all : Bool) (ow : List Int) (e : Ent) : Ent := ⟨(leftE all ow e).2.1, (leftE all ow e).2.2⟩
theorem get_set_ne {t : Tab} (hd : (t.map (·.1)).Nodup) {k k2 : Bs} {e e' : Ent} (hg : getB t k = some e) (hne : k2 ≠ k) : getB (setE t k e') k2 = getB t k2 := by
  unfold setE
  have hnd : ((putB t k e').map (·.1)).Nodup := by
    rw [putB_keys, if_pos (getB_mem.1 (by rw [hg]; rfl))]; exact hd
  split
  · rw [getB_del _ _ _ hnd, if_neg hne, getB_put, if_neg hne]
  · rw [getB_put, if_neg hne]
theorem leaveF_ok {all : Bool} {ow : List Int} : ∀ (ks : List Bs) (t : Tab), ks.Nodup → (t.map (·.1)).Nodup → (∀ y ∈ ks, (getB t y).isSome = true) →
    (leaveF all ow t ks).2 = (ks.flatMap fun k => (leftE all ow (entOf t k)).1) ∧ ∀ k, entOf (leaveF all ow t ks).1 k = if k ∈ ks then lfE all ow (entOf t k) else entOf t k
  | [], t, _, _, _ => ⟨rfl, fun k => by simp [leaveF]⟩
  | k :: ks, t, hn, hd, hs => by
    obtain ⟨e, he⟩ := Option.isSome_iff_exists.1 (hs k (List.mem_cons_self ..))
    have hn2 := List.nodup_cons.1 hn
    have hset := entOf_set hd he (e' := lfE all ow (entOf t k)) (fun h => leftE_nil h)
    have hne : ∀ y ∈ ks, y ≠ k := fun y hy h => hn2.1 (h ▸ hy)
    have ih := leaveF_ok (all := all) (ow := ow) ks (setE t k (lfE all ow (entOf t k))) hn2.2 (set_nodup hd he) (fun y hy => by rw [get_set_ne hd he (hne y hy)]; exact hs y (List.mem_cons_of_mem _ hy))
    rw [leaveF]
    refine ⟨?_, fun k2 => ?_⟩
    · show _ ++ (leaveF all ow (setE t k (lfE all ow (entOf t k))) ks).2 = _
      rw [ih.1, List.flatMap_cons]
      congr 1
      rw [List.flatMap_def, List.flatMap_def]; congr 1
      apply List.map_congr_left
      intro y hy
      rw [hset, if_neg (hne y hy)]
    · show entOf (leaveF all ow (setE t k (lfE all ow (entOf t k))) ks).1 k2 = _
      rw [ih.2, hset]
      by_cases h : k2 = k
      · subst h; rw [if_neg hn2.1, if_pos rfl, if_pos (List.mem_cons_self ..)]
      · simp [h]
/-! orders -/
theorem sortedB_eq {α : Type} {R : α → α → Prop} (irr : ∀ x, ¬ R x x) (tr : ∀ x y z, R x y → R y z → R x z) : ∀ {l1 l2 : List α}, l1.Pairwise R → l2.Pairwise R → (∀ x, x ∈ l1 ↔ x ∈ l2) → l1 = l2
  | [], [], _, _, _ => rfl
  | [], y :: t, _, _, h => by have := (h y).2 (List.mem_cons_self ..); cases this
  | x :: t, [], _, _, h => by have := (h x).1 (List.mem_cons_self ..); cases this
  | x :: t, y :: u, h1, h2, h => by
    have a1 := List.pairwise_cons.1 h1
    have a2 := List.pairwise_cons.1 h2
    have exy : x = y := by
      rcases List.mem_cons.1 ((h x).1 (List.mem_cons_self ..)) with e | e
      · exact e
      · rcases List.mem_cons.1 ((h y).2 (List.mem_cons_self ..)) with g | g
        · exact g.symm
        · exact absurd (tr _ _ _ (a1.1 y g) (a2.1 x e)) (irr x)
    subst exy
    congr 1
    refine sortedB_eq irr tr a1.2 a2.2 fun z => ⟨fun hz => ?_, fun hz => ?_⟩
    · rcases List.mem_cons.1 ((h z).1 (List.mem_cons_of_mem _ hz)) with e | e
      · exact absurd (a1.1 z hz) (by rw [e]; exact irr x)
      · exact e
    · rcases List.mem_cons.1 ((h z).2 (List.mem_cons_of_mem _ hz)) with e | e
      · exact absurd (a2.1 z hz) (by rw [e]; exact irr x)
      · exact e
def LtB (x y : Bs) : Prop := Op.bytesLess x y = true
theorem LtB.iff {x y : Bs} : LtB x y ↔ x < y := by unfold LtB; rw [Go.Proofs.bytesLess_eq, decide_eq_true_iff]
theorem LtB.irr (x : Bs) : ¬ LtB x x := by rw [LtB.iff]; exact List.lt_irrefl x
theorem LtB.tr (x y z : Bs) (h1 : LtB x y) (h2 : LtB y z) : LtB x z := by rw [LtB.iff] at *; exact List.lt_trans h1 h2
theorem names_sorted {t : Tab} (h : (t.map (·.1)).Nodup) : (namesS t).Pairwise LtB := by
  have h1 : (namesS t).Pairwise fun x y => decide (x ≤ y) = true := List.pairwise_mergeSort (fun a b c h1 h2 => by rw [decide_eq_true_iff] at *; exact List.le_trans h1 h2) (fun a b => by rw [Bool.or_eq_true, decide_eq_true_iff, decide_eq_true_iff]; exact List.le_total a b) _
  have h2 := names_nodup h
  refine (h1.and h2).imp fun {x y} g => ?_
  rw [LtB.iff]
  have hle := g.1
  rw [decide_eq_true_iff] at hle
  rcases List.le_iff_lt_or_eq.1 hle with e | e
  · exact e
  · exact absurd e g.2
theorem insK_mem (k x : Bs) : ∀ out : List Bs, x ∈ insK out k ↔ x = k ∨ x ∈ out
  | [] => by simp [insK]
  | y :: t => by
    rw [insK]
    split
    · rw [List.mem_cons, insK_mem k x t, List.mem_cons]; constructor
      · rintro (h | h | h); exact .inr (.inl h); exact .inl h; exact .inr (.inr h)
      · rintro (h | h | h); exact .inr (.inl h); exact .inl h; exact .inr (.inr h)
    · split
      · rename_i h; subst h; rw [List.mem_cons]; constructor
        · intro h; exact .inr h
        · rintro (h | h); exact .inl h; exact h
      · rw [List.mem_cons]
theorem insK_sorted (k : Bs) : ∀ {out : List Bs}, out.Pairwise LtB → (insK out k).Pairwise LtB
  | [], _ => by simp [insK]
  | y :: t, h => by
    have a := List.pairwise_cons.1 h
    rw [insK]
    split
    · rename_i hl
      refine List.pairwise_cons.2 ⟨fun z hz => ?_, insK_sorted k a.2⟩
      rcases (insK_mem k z t).1 hz with e | e
      · rw [e]; exact hl
      · exact a.1 z e
    · split
      · exact h
      · rename_i h1 h2
        have hk : LtB k y := by
          rw [LtB.iff]
          have h1' : ¬ y < k := fun g => h1 (LtB.iff.2 g)
          rcases List.le_iff_lt_or_eq.1 (List.not_lt.1 h1') with e | e
          · exact e
          · exact absurd e.symm h2
        refine List.pairwise_cons.2 ⟨fun z hz => ?_, h⟩
        rcases List.mem_cons.1 hz with e | e
        · rw [e]; exact hk
        · exact LtB.tr _ _ _ hk (a.1 z e)
theorem keys_fold : ∀ (l : List Plc) (out : List Bs), out.Pairwise LtB → (l.foldl (fun out p => insK out p.key) out).Pairwise LtB ∧ ∀ x, x ∈ l.foldl (fun out p => insK out p.key) out ↔ x ∈ out ∨ ∃ p ∈ l, p.key = x
  | [], out, h => ⟨h, fun x => by simp⟩
  | p :: l, out, h => by
    have := keys_fold l (insK out p.key) (insK_sorted p.key h)
    refine ⟨this.1, fun x => ?_⟩
    rw [List.foldl_cons, this.2, insK_mem]
    constructor
    · rintro ((h | h) | ⟨q, hq, h⟩)
      · exact .inr ⟨p, List.mem_cons_self .., h.symm⟩
      · exact .inl h
      · exact .inr ⟨q, List.mem_cons_of_mem _ hq, h⟩
    · rintro (h | ⟨q, hq, h⟩)
      · exact .inl (.inr h)
      · rcases List.mem_cons.1 hq with e | e
        · subst e; exact .inl (.inl h.symm)
        · exact .inr ⟨q, e, h⟩
theorem keysR_sorted (l : List Plc) : (keysR l).Pairwise LtB := (keys_fold l [] List.Pairwise.nil).1
theorem keysR_mem {l : List Plc} {x : Bs} : x ∈ keysR l ↔ ∃ p ∈ l, p.key = x := by unfold keysR; rw [(keys_fold l [] List.Pairwise.nil).2]; simp
theorem keysR_mem' {l : List Plc} {x : Bs} : x ∈ keysR l ↔ l.filter (keyIs x) ≠ [] := by
  rw [keysR_mem, ne_eq, List.filter_eq_nil_iff]
  constructor
  · rintro ⟨p, hp, e⟩ h; exact h p hp (keyIs_iff.2 e)
  · intro h
    apply Classical.byContradiction
    intro g
    exact h fun p hp hk => g ⟨p, hp, keyIs_iff.1 hk⟩
theorem keysR_nodup (l : List Plc) : (keysR l).Nodup := (keysR_sorted l).imp fun {x y} h e => by subst e; exact LtB.irr x h
/-- what is nothing at the others need not be asked there -/
theorem flat_some {β : Type} {g : Bs → List β} {l1 l2 : List Bs} (h1 : l1.Pairwise LtB) (h2 : l2.Pairwise LtB) (hs : ∀ x ∈ l2, x ∈ l1) (hz : ∀ x ∈ l1, x ∉ l2 → g x = []) : l1.flatMap g = l2.flatMap g := by
  have e : l2 = l1.filter (fun x => decide (x ∈ l2)) := sortedB_eq LtB.irr LtB.tr h2 (h1.sublist List.filter_sublist) fun x => by
    rw [List.mem_filter, decide_eq_true_iff]; exact ⟨fun h => ⟨hs x h, h⟩, fun h => h.2⟩
  have : ∀ l : List Bs, (∀ x ∈ l, x ∉ l2 → g x = []) → l.flatMap g = (l.filter (fun x => decide (x ∈ l2))).flatMap g := by
    intro l
    induction l with
    | nil => intro _; rfl
    | cons x t ih =>
      intro h
      rw [List.flatMap_cons, ih (fun y hy => h y (List.mem_cons_of_mem _ hy)), List.filter_cons]
      by_cases hx : x ∈ l2
      · rw [if_pos (by simpa using hx), List.flatMap_cons]
      · rw [if_neg (by simpa using hx), h x (List.mem_cons_self ..) hx]; rfl
  rw [this l1 hz, ← e]
end Go.Q
namespace Go.Q
structure Rel (t : Tab) (H L : List Plc) : Prop where
  nd : (t.map (·.1)).Nodup
  hold : ∀ k, (entOf t k).hold = H.filter (keyIs k)
  line : ∀ k, (entOf t k).line = L.filter (keyIs k)
  ok : LkS t
  uq : L.Pairwise (fun p q => p.own ≠ q.own)
theorem Rel.nil : Rel [] [] [] := ⟨List.nodup_nil, fun k => rfl, fun k => rfl, LkS.nil, List.Pairwise.nil⟩
theorem Rel.mem {t : Tab} {H L : List Plc} (h : Rel t H L) {k : Bs} : k ∈ namesS t ↔ H.filter (keyIs k) ≠ [] := by
  rw [names_mem, ← getB_mem, ← h.hold k]
  constructor
  · intro g
    obtain ⟨e, he⟩ := Option.isSome_iff_exists.1 g
    rw [ent_some he]; exact (h.ok _ (getB_memp he)).1
  · intro g
    cases he : getB t k with
    | none => rw [ent_none he] at g; exact absurd rfl g
    | some e => rfl
theorem Rel.names {t : Tab} {H L : List Plc} (h : Rel t H L) : namesS t = keysR H :=
  sortedB_eq LtB.irr LtB.tr (names_sorted h.nd) (keysR_sorted H) fun x => by rw [h.mem, keysR_mem']
theorem Rel.line_mem {t : Tab} {H L : List Plc} (h : Rel t H L) {k : Bs} (hk : L.filter (keyIs k) ≠ []) : k ∈ namesS t := by
  rw [names_mem, ← getB_mem]
  cases he : getB t k with
  | none => rw [← h.line k, ent_none he] at hk; exact absurd rfl hk
  | some e => rfl
/-! what is told -/
theorem Rel.holds {t : Tab} {H L : List Plc} (h : Rel t H L) (o : Int) : holdsC t o = (holdsR H o).map fun p => (p.key, p.wr) := by
  rw [holdsR_eq, List.map_filterMap, ← h.names]
  unfold holdsC
  congr 1; funext k
  unfold holdC holdK
  rw [h.hold k, find_fil]; rfl
theorem Rel.of {t : Tab} {H L : List Plc} (h : Rel t H L) (k : Bs) : linS t k = ofR L k := by unfold linS ofR; rw [h.line k]
theorem uq_find {L : List Plc} (hu : L.Pairwise (fun p q => p.own ≠ q.own)) {p q : Plc} (hp : p ∈ L) (hq : q ∈ L) (e : p.own = q.own) : p = q := by
  induction L with
  | nil => cases hp
  | cons x t ih =>
    have a := List.pairwise_cons.1 hu
    rcases List.mem_cons.1 hp with e1 | e1 <;> rcases List.mem_cons.1 hq with e2 | e2
    · rw [e1, e2]
    · rw [e1] at e; exact absurd e (a.1 q e2)
    · rw [e2] at e; exact absurd e.symm (a.1 p e1)
    · exact ih a.2 e1 e2
theorem Rel.waits {t : Tab} {H L : List Plc} (h : Rel t H L) (o : Int) : waitsS t o = L.find? (ownIs o) := by
  unfold waitsS
  cases hf : L.find? (ownIs o) with
  | none =>
    rw [List.findSome?_eq_none_iff]
    intro k _
    rw [h.line k, List.find?_eq_none]
    intro x hx
    exact List.find?_eq_none.1 hf x (List.mem_filter.1 hx).1
  | some p =>
    have hp : p ∈ L := List.mem_of_find?_eq_some hf
    have hpo : p.own = o := by simpa [ownIs] using List.find?_some hf
    have hkey : ∀ k q, (entOf t k).line.find? (ownIs o) = some q → q = p := by
      intro k q hq
      rw [h.line k] at hq
      have hm := (List.mem_filter.1 (List.mem_of_find?_eq_some hq)).1
      have ho : q.own = o := by simpa [ownIs] using List.find?_some hq
      exact uq_find h.uq hm hp (by rw [ho, hpo])
    have hpf : p ∈ L.filter (keyIs p.key) := List.mem_filter.2 ⟨hp, keyIs_iff.2 rfl⟩
    have hn := h.line_mem (k := p.key) (fun g => by rw [g] at hpf; cases hpf)
    have hs : ∃ q, (entOf t p.key).line.find? (ownIs o) = some q := by
      rw [← Option.isSome_iff_exists, List.find?_isSome, h.line]
      exact ⟨p, hpf, by simp [ownIs, hpo]⟩
    obtain ⟨q, hq⟩ := hs
    have h2 : ((namesS t).findSome? fun k => (entOf t k).line.find? (ownIs o)).isSome = true := by
      rw [List.findSome?_isSome_iff]; exact ⟨p.key, hn, by rw [hq]; rfl⟩
    obtain ⟨r, hr⟩ := Option.isSome_iff_exists.1 h2
    obtain ⟨l1, k, l2, _, hk, _⟩ := List.findSome?_eq_some_iff.1 hr
    rw [hr, hkey k r hk]
theorem ed_fil (H : List Plc) (k : Bs) : ∀ (l pre : List Plc), edS (H.filter (keyIs k)) (pre.filter (keyIs k)) (l.filter (keyIs k)) = edR H pre k l
  | [], pre => rfl
  | c :: t, pre => by
    rw [edR, ← ed_fil H k t (pre ++ [c]), List.filter_append, List.filter_cons]
    by_cases h : keyIs k c = true
    · rw [if_pos h, if_pos h, edS, List.filter_append, List.map_append]
      have e : (fun h => keyIs c.key h && clashS c h) = fun h => clashS c h && keyIs k h := by funext q; rw [keyIs_iff.1 h, Bool.and_comm]
      rw [e, List.filter_filter, List.filter_filter, show [c].filter (keyIs k) = [c] from by simp [h]]
    · rw [if_neg h, if_neg h, show [c].filter (keyIs k) = [] from by simp [h], List.append_nil]; rfl
theorem Rel.edges {t : Tab} {H L : List Plc} (h : Rel t H L) : edgesS t = edgesR H L := by
  have e : ∀ k, edS (entOf t k).hold [] (entOf t k).line = eK H L k := fun k => by rw [h.hold k, h.line k]; exact ed_fil H k L []
  rw [edgesR_eq]
  unfold edgesS
  rw [show (fun k => edS (entOf t k).hold [] (entOf t k).line) = eK H L from funext e]
  refine flat_some (names_sorted h.nd) (keysR_sorted L) (fun x hx => h.line_mem (keysR_mem'.1 hx)) fun x _ hx => ?_
  rw [keysR_mem'] at hx
  have e0 : L.filter (keyIs x) = [] := Classical.not_not.1 hx
  rw [← e x, h.line x, e0]; rfl
/-! what is done -/
theorem fil_comm {H : List Plc} {c d : Plc → Bool} : (H.filter c).filter d = (H.filter d).filter c := by
  rw [List.filter_filter, List.filter_filter]; congr 1; funext p; rw [Bool.and_comm]
theorem Rel.leave {t : Tab} {H L : List Plc} (h : Rel t H L) {all : Bool} {ow : List Int} : (leaveS all ow t).2 = (leaveR all ow H L).2 ∧ Rel (leaveS all ow t).1 (leaveR all ow H L).1.1 (leaveR all ow H L).1.2 := by
  have hT := leaveF_ok (all := all) (ow := ow) (namesS t) t (names_nodup h.nd) h.nd (fun y hy => getB_mem.2 (names_mem.1 hy))
  have hR := lv_ok (keysR (stayL ow L)) (stayH all ow H) (stayL ow L) (keysR_nodup _)
  have hg : ∀ k, leftE all ow (entOf t k) = grK (stayH all ow H) (stayL ow L) k := by
    intro k
    unfold leftE grK stayH stayL
    rw [h.hold k, h.line k]
    congr 1
    · split
      · rw [fil_comm]
      · rfl
    · rw [fil_comm]
  have hz : ∀ k, k ∉ keysR (stayL ow L) → grK (stayH all ow H) (stayL ow L) k = ([], (stayH all ow H).filter (keyIs k), []) := by
    intro k hk
    rw [keysR_mem'] at hk
    have e0 : (stayL ow L).filter (keyIs k) = [] := Classical.not_not.1 hk
    unfold grK; rw [e0]; exact grant_stop (.inl rfl)
  have hent : ∀ k, entOf (leaveS all ow t).1 k = lfE all ow (entOf t k) := by
    intro k
    show entOf (leaveF all ow t (namesS t)).1 k = _
    rw [hT.2]
    split
    · rfl
    · rename_i hk
      have : getB t k = none := by
        cases he : getB t k with
        | none => rfl
        | some e => exact absurd (names_mem.2 (getB_mem.1 (by rw [he]; rfl))) hk
      rw [ent_none this]; unfold lfE leftE; cases all <;> rfl
  refine ⟨?_, leave_nodup h.nd, fun k => ?_, fun k => ?_, h.ok.leave h.nd, ?_⟩
  · show (leaveF all ow t (namesS t)).2 = (leaveRF _ _ _).2
    rw [hT.1, hR.out]
    rw [show (fun k => (leftE all ow (entOf t k)).1) = fun k => (grK (stayH all ow H) (stayL ow L) k).1 from funext fun k => by rw [hg]]
    refine flat_some (names_sorted h.nd) (keysR_sorted _) (fun x hx => ?_) fun x _ hx => by rw [hz x hx]
    apply h.line_mem
    rw [keysR_mem'] at hx
    intro e0; apply hx
    unfold stayL; rw [fil_comm, e0]; rfl
  · rw [hent]
    show (leftE all ow (entOf t k)).2.1 = (leaveRF _ _ _).1.1.filter (keyIs k)
    rw [hR.hold, hg]
    split
    · rfl
    · rename_i hk; rw [hz k hk]
  · rw [hent]
    show (leftE all ow (entOf t k)).2.2 = (leaveRF _ _ _).1.2.filter (keyIs k)
    rw [hR.line, hg]
    split
    · rfl
    · rename_i hk
      rw [hz k hk]
      rw [keysR_mem'] at hk
      exact (Classical.not_not.1 hk).symm
  · exact h.uq.sublist (hR.sub.trans List.filter_sublist)
theorem leaveR_len {H L : List Plc} {all : Bool} {ow : List Int} : (leaveR all ow H L).1.1.length + (leaveR all ow H L).1.2.length ≤ H.length + L.length := by
  have hR := (lv_ok (keysR (stayL ow L)) (stayH all ow H) (stayL ow L) (keysR_nodup _)).len
  have h1 : (stayH all ow H).length ≤ H.length := by unfold stayH; split; exact List.length_filter_le _ _; exact Nat.le_refl _
  have h2 : (stayL ow L).length ≤ L.length := List.length_filter_le _ _
  show (leaveRF _ _ _).1.1.length + (leaveRF _ _ _).1.2.length ≤ _
  omega
theorem askR_len {H L : List Plc} {o : Int} {k : Bs} {wr : Bool} : (askR H L o k wr).1.1.length + (askR H L o k wr).1.2.length ≤ H.length + L.length + 1 := by
  unfold askR
  have := holdR_len H ⟨k, wr, o⟩
  have := insAt_len L (placeR H L o k) ⟨k, wr, o⟩
  split
  · simp only; omega
  · split
    · simp only; omega
    · split
      · simp only; omega
      · split
        · simp only; omega
        · simp only; omega
theorem Rel.putE {t : Tab} {H L H' L' : List Plc} (h : Rel t H L) {k : Bs} {e : Ent} (h1 : e.hold = H'.filter (keyIs k)) (h2 : e.line = L'.filter (keyIs k)) (h3 : ∀ k2, k2 ≠ k → H'.filter (keyIs k2) = H.filter (keyIs k2)) (h4 : ∀ k2, k2 ≠ k → L'.filter (keyIs k2) = L.filter (keyIs k2)) (k2 : Bs) :
    (entOf (putB t k e) k2).hold = H'.filter (keyIs k2) ∧ (entOf (putB t k e) k2).line = L'.filter (keyIs k2) := by
  unfold entOf
  rw [getB_put]
  by_cases g : k2 = k
  · subst g; rw [if_pos rfl]; exact ⟨h1, h2⟩
  · rw [if_neg g, h3 k2 g, h4 k2 g]; exact ⟨h.hold k2, h.line k2⟩
theorem Rel.ask {t : Tab} {H L : List Plc} (h : Rel t H L) {o : Int} {k : Bs} {wr : Bool} : (askS t o k wr).2 = (askR H L o k wr).2 ∧ Rel (askS t o k wr).1 (askR H L o k wr).1.1 (askR H L o k wr).1.2 := by
  have hnd := ask_nodup h.nd (o := o) (k := k) (wr := wr)
  have hok := h.ok.ask (o := o) (k := k) (wr := wr)
  by_cases h0 : o < 0
  · rw [askR_neg h0]; unfold askS; rw [if_pos h0]; exact ⟨rfl, h⟩
  have hw : (waitsS t o).isSome = true ↔ 0 ≤ idxG (ownIs o) L := by rw [h.waits, List.find?_isSome, idx_any]
  by_cases h1 : 0 ≤ idxG (ownIs o) L
  · rw [askR_wait h0 h1]; unfold askS; rw [if_neg h0, if_pos (hw.2 h1)]; exact ⟨rfl, h⟩
  have eT : askS t o k wr = (putB t k (askE (entOf t k) ⟨k, wr, o⟩).1, (askE (entOf t k) ⟨k, wr, o⟩).2) := by unfold askS; rw [if_neg h0, if_neg (fun g => h1 (hw.1 g))]
  rw [eT] at hnd hok ⊢
  have hi := findC_at_iff (H := H) (o := o) (k := k)
  have hg : 0 ≤ findC H o k → H[(findC H o k).toNat]? = (entOf t k).hold[(atS (entOf t k).hold o).toNat]? := by
    intro g
    rw [h.hold k, findC_eq, atS_idx, idx_get (by rw [← findC_eq]; exact g), idx_get (by rw [← atS_idx]; exact hi.2 g), find_fil]
  have c3 : (0 ≤ atS (entOf t k).hold o ∧ ((((entOf t k).hold[(atS (entOf t k).hold o).toNat]?).map (·.wr)).getD false = true ∨ wr = false)) ↔ (0 ≤ findC H o k ∧ (((H[(findC H o k).toNat]?).map (·.wr)).getD false = true ∨ wr = false)) := by
    constructor
    · rintro ⟨a, b⟩; have a' := hi.1 (by rw [← h.hold k]; exact a); exact ⟨a', by rw [hg a']; exact b⟩
    · rintro ⟨a, b⟩; exact ⟨by rw [h.hold k]; exact hi.2 a, by rw [← hg a]; exact b⟩
  by_cases h3 : 0 ≤ findC H o k ∧ (((H[(findC H o k).toNat]?).map (·.wr)).getD false = true ∨ wr = false)
  · have e1 : askE (entOf t k) ⟨k, wr, o⟩ = (entOf t k, 0) := by unfold askE; exact if_pos (c3.2 h3)
    rw [e1] at hnd hok ⊢
    rw [askR_has h0 h1 h3]
    have := fun k2 => h.putE (k := k) (e := entOf t k) (H' := H) (L' := L) (h.hold k) (h.line k) (fun _ _ => rfl) (fun _ _ => rfl) k2
    exact ⟨rfl, hnd, fun k2 => (this k2).1, fun k2 => (this k2).2, hok, h.uq⟩
  have e1 : askE (entOf t k) ⟨k, wr, o⟩ = if freeS (entOf t k).hold ⟨k, wr, o⟩ = true ∧ (0 ≤ atS (entOf t k).hold o ∨ (entOf t k).line = []) then (⟨holdS (entOf t k).hold ⟨k, wr, o⟩, (entOf t k).line⟩, 0) else (⟨(entOf t k).hold, waitS (entOf t k).hold (entOf t k).line ⟨k, wr, o⟩⟩, 10) := by
    unfold askE; rw [if_neg (fun g => h3 (c3.1 g))]
  have c4 : (freeS (entOf t k).hold ⟨k, wr, o⟩ = true ∧ (0 ≤ atS (entOf t k).hold o ∨ (entOf t k).line = [])) ↔ (freeR H ⟨k, wr, o⟩ = true ∧ (0 ≤ findC H o k ∨ (L.filter (keyIs k)).length = 0)) := by
    rw [h.hold k, h.line k, free_fil H ⟨k, wr, o⟩, hi, List.length_eq_zero_iff]
  rw [e1] at hnd hok ⊢
  by_cases h4 : freeR H ⟨k, wr, o⟩ = true ∧ (0 ≤ findC H o k ∨ (L.filter (keyIs k)).length = 0)
  · rw [if_pos (c4.2 h4)] at hnd hok ⊢
    rw [askR_held h0 h1 h3 h4]
    have := fun k2 => h.putE (k := k) (e := ⟨holdS (entOf t k).hold ⟨k, wr, o⟩, (entOf t k).line⟩) (H' := holdR H ⟨k, wr, o⟩) (L' := L) (by show holdS _ _ = _; rw [holdR_repl, holdS_repl, h.hold k]; exact (repl_fil (k := k) (c := ⟨k, wr, o⟩) rfl H).symm) (h.line k) (fun k2 hne => by rw [holdR_repl]; exact repl_fil2 (k := k) (c := ⟨k, wr, o⟩) rfl hne H) (fun _ _ => rfl) k2
    exact ⟨rfl, hnd, fun k2 => (this k2).1, fun k2 => (this k2).2, hok, h.uq⟩
  · rw [if_neg (fun g => h4 (c4.1 g))] at hnd hok ⊢
    rw [askR_line h0 h1 h3 h4 rfl, Int.toNat_natCast]
    have := fun k2 => h.putE (k := k) (e := ⟨(entOf t k).hold, waitS (entOf t k).hold (entOf t k).line ⟨k, wr, o⟩⟩) (H' := H) (L' := insAt L (placeR H L o k) ⟨k, wr, o⟩) (h.hold k) (by rw [wait_fil, h.hold k, h.line k]) (fun _ _ => rfl) (fun k2 hne => insAt_fil2 (c := ⟨k, wr, o⟩) rfl hne L _) k2
    refine ⟨rfl, hnd, fun k2 => (this k2).1, fun k2 => (this k2).2, hok, ?_⟩
    have hno : ∀ q ∈ L, q.own ≠ o := fun q hq e => h1 (idx_any.2 ⟨q, hq, by simp [ownIs, e]⟩)
    show (insAt L _ _).Pairwise _
    unfold insAt
    have hu := h.uq
    rw [← List.take_append_drop (placeR H L o k) L, List.pairwise_append] at hu
    rw [List.append_assoc, List.pairwise_append]
    refine ⟨hu.1, ?_, ?_⟩
    · rw [List.cons_append, List.nil_append, List.pairwise_cons]
      exact ⟨fun q hq e => hno q (List.mem_of_mem_drop hq) e.symm, hu.2.1⟩
    · intro a ha b hb
      rcases List.mem_cons.1 hb with e | e
      · rw [e]; exact hno a (List.mem_of_mem_take ha)
      · exact hu.2.2 a ha b e
end Go.Q
namespace Go.Q
theorem Rel.look {t : Tab} {H L : List Plc} (h : Rel t H L) {o : Int} {k : Nat} {x : Bs × Bool} {y : Plc} (hx : (holdsC t o)[k]? = some x) (hy : (holdsR H o)[k]? = some y) : x = (y.key, y.wr) := by
  rw [h.holds, List.getElem?_map, hy] at hx; exact (Option.some.inj hx).symm
theorem Rel.look2 {t : Tab} {H L : List Plc} (h : Rel t H L) {k : Nat} {x y : Int × Int} (hx : (edgesS t)[k]? = some x) (hy : (edgesR H L)[k]? = some y) : x = y := by
  rw [h.edges] at hx; exact Option.some.inj (hx.symm.trans hy)
theorem Rel.isw {t : Tab} {H L : List Plc} (h : Rel t H L) (o : Int) : (waitsS t o).isSome = decide (0 ≤ idxG (ownIs o) L) := by
  rw [h.waits, Bool.eq_iff_iff, List.find?_isSome, decide_eq_true_iff, idx_any]
theorem Rel.wx {t : Tab} {H L : List Plc} (h : Rel t H L) {o : Int} {x : Plc} (h0 : 0 ≤ idxG (ownIs o) L) (hx : L[(idxG (ownIs o) L).toNat]? = some x) : waitsS t o = some x := by rw [h.waits, ← idx_get h0, hx]
def doT (t : Tab) (a : LAct) : Tab := if a.kind = 0 then (askS t a.own a.key a.wr).1 else if a.kind = 1 then (leaveS false [a.own] t).1 else (leaveS true (a.own :: a.more) t).1
def doR (H L : List Plc) (a : LAct) : List Plc × List Plc := if a.kind = 0 then (askR H L a.own a.key a.wr).1 else if a.kind = 1 then (leaveR false [a.own] H L).1 else (leaveR true (a.own :: a.more) H L).1
theorem Rel.does {t : Tab} {H L : List Plc} (h : Rel t H L) (a : LAct) : Rel (doT t a) (doR H L a).1 (doR H L a).2 := by
  unfold doT doR
  split
  · exact h.ask.2
  · split
    · exact h.leave.2
    · exact h.leave.2
theorem LkB.does {t : Tab} {H L : List Plc} {n : Nat} (h : LkB t n) (hr : Rel t H L) {a : LAct} (hk : a.key.length ≤ 100) : LkB (doT t a) (n + 1) := by
  unfold doT
  split
  · exact h.ask hk
  · split
    · exact (h.leave hr.nd).mono (by omega)
    · exact (h.leave hr.nd).mono (by omega)
theorem does_len {H L : List Plc} {a : LAct} : (doR H L a).1.length + (doR H L a).2.length ≤ H.length + L.length + 1 := by
  unfold doR
  split
  · exact askR_len
  · split
    · have := leaveR_len (H := H) (L := L) (all := false) (ow := [a.own]); omega
    · have := leaveR_len (H := H) (L := L) (all := true) (ow := a.own :: a.more); omega
end Go.Q
namespace Go.Q
theorem doT_0 {t : Tab} {a : LAct} (h : a.kind = 0) : doT t a = (askS t a.own a.key a.wr).1 := by unfold doT; rw [if_pos h]
theorem doT_1 {t : Tab} {a : LAct} (h : ¬ a.kind = 0) (g : a.kind = 1) : doT t a = (leaveS false [a.own] t).1 := by unfold doT; rw [if_neg h, if_pos g]
theorem doT_2 {t : Tab} {a : LAct} (h : ¬ a.kind = 0) (g : ¬ a.kind = 1) : doT t a = (leaveS true ([a.own] ++ a.more) t).1 := by unfold doT; rw [if_neg h, if_neg g]; rfl
theorem doR_0 {H L : List Plc} {a : LAct} (h : a.kind = 0) : doR H L a = (askR H L a.own a.key a.wr).1 := by unfold doR; rw [if_pos h]
theorem doR_1 {H L : List Plc} {a : LAct} (h : ¬ a.kind = 0) (g : a.kind = 1) : doR H L a = (leaveR false [a.own] H L).1 := by unfold doR; rw [if_neg h, if_pos g]
theorem doR_2 {H L : List Plc} {a : LAct} (h : ¬ a.kind = 0) (g : ¬ a.kind = 1) : doR H L a = (leaveR true ([a.own] ++ a.more) H L).1 := by unfold doR; rw [if_neg h, if_neg g]; rfl
end Go.Q
