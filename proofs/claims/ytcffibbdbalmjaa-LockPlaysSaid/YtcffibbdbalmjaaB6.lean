/-
  Parts of a walk: what functions of the program compute, each told by a theorem (QELkP1, QELkP2, QELkP, QY, QERdLk).
-/
import Derived.Test.YtcffibbdbalmjaaB5
import Derived.ChangeArms
import Derived.WideShapes
import Derived.DataElems
set_option linter.unusedVariables false
set_option linter.unusedSimpArgs false
namespace Go.Q
open Go.Proofs
set_option linter.unusedVariables false
set_option maxRecDepth 100000
attribute [local irreducible] wpList OK Code.wp
set_option maxHeartbeats 4000000 in
theorem looks14_c {E w : World} {R : List Hp} {tb : Nat} {v : TabS} {v_H : Value} {H : List Plc} {v_L : Value} {L : List Plc} {owner : Int} {key : Bs}  (hH : Has E w [R]) (h_tb : TbRd R tb v) (h_H : Sl R 3 v_H H.length (H.flatMap rcC)) (h_L : Sl R 3 v_L L.length (L.flatMap rcC)) (hrel : Rel v.keys H L) (hb : LkB v.keys 60) (hsz : H.length + L.length ≤ 60) :
    Calls Try.prog 47 #[(.pointer (some ⟨tb, 0, none⟩)), (.agg #[v_H, v_L]), (.int .i64 owner), (S key)] w fun e w' => e = .returned (.bool true) ∧ Has E w' [R] := by
  have hs := hrel.ok
  have hd := hrel.nd
  obtain ⟨x1, hc3, f2⟩ := h_tb
  refine c_enter (args := [(.pointer (some ⟨tb, 0, none⟩)), (.agg #[v_H, v_L]), (.int .i64 owner), (S key)]) Try.func47 rfl Try.ntmps47 (by simp) ?_
  refine wp_seq_k fun K4 hK4 => ?_
  refine c_region ?_
  refine s_op (o_box (cs := #[v_H, v_L]) rfl rfl hH fun b5 w6 hH7 => ?_)
  refine s_op (o_assign (v := (.bool false)) rfl ?_)
  refine s_nil ?_
  refine t_norm (hK4 _ _ ?_)
  refine wp_seq_k fun K8 hK8 => ?_
  refine Rest.region mixed (by kernel_rfl) ?_
  have hH9 : Has E { w6 with drawn := w6.drawn + 1 } [[Hp.one b5 (.cells #[v_H, v_L] 86 (0, 0))], R] := Has0.drew hH7 _
  refine Rest.phaseA (fun w_ => Has E w_ [[Hp.one b5 (.cells #[v_H, v_L] 86 (0, 0))]]) 0 5 5 rfl (by decide) (by kernel_rfl) ?_
  refine a_op 0 rfl (by kernel_rfl) (fun w_ h_ => o_move (v := (.pointer (some ⟨tb, 0, none⟩))) rfl ⟨rfl, rfl⟩) ?_
  refine a_op 1 rfl (by kernel_rfl) (fun w_ h_ => o_move (v := (.int .i64 owner)) rfl ⟨rfl, rfl⟩) ?_
  refine a_op 3 rfl (by kernel_rfl) (fun w_ h_ => o_loadN (cs := [v_H, v_L]) Try.underlying86 rfl ti86 rfl h_ (seg_sub 0 rfl) (CellsAt.one rfl) ⟨rfl, rfl⟩) ?_
  refine a_op 4 rfl (by kernel_rfl) (fun w_ h_ => o_move (v := (.int .i64 owner)) rfl ⟨rfl, rfl⟩) ?_
  have hH10 : Has E { w6 with drawn := w6.drawn + 1 } [[Hp.one b5 (.cells #[v_H, v_L] 86 (0, 0))]] := hH9.first 1 rfl
  refine a_w 2 rfl (by kernel_rfl) hH10 (o_callf (vs := #[(.pointer (some ⟨tb, 0, none⟩)), (.int .i64 owner)]) ca43 rfl (args2 rfl rfl) (holds_c (v := v) (o := owner) hH9.all ((TbRd.mk hc3 f2).mono (seg_sub 1 rfl)) (hb.hkl) (hb.hkn (by omega))) ?_)
  rintro _ w16 ⟨v11, s12, rfl, ho13, hX14⟩
  refine ⟨_, rfl, ?_⟩
  have hH15 : Has E w16 [s12, [Hp.one b5 (.cells #[v_H, v_L] 86 (0, 0))], R] := hX14.of_all1
  have hH17 : Has E w16 [[Hp.one b5 (.cells #[v_H, v_L] 86 (0, 0))]] := (hH15.front 1 rfl).first 1 rfl
  refine a_done (by kernel_rfl) hH17 ?_
  refine r_op 5 rfl (by kernel_rfl) (o_callf (vs := #[(.agg #[v_H, v_L]), (.int .i64 owner)]) ca100 rfl (args2 rfl rfl) (rholds_c (H := H) (L := L) (owner := owner) hH15.all (h_H.mono (seg_sub 2 rfl)) (h_L.mono (seg_sub 2 rfl)) (by first | omega | (simp only []; omega) | (simp; done) | (simp; omega))) ?_)
  rintro _ w23 ⟨v18, s19, rfl, ho20, hX21⟩
  refine ⟨_, rfl, ?_⟩
  have hH22 : Has E w23 [s19, s12, [Hp.one b5 (.cells #[v_H, v_L] 86 (0, 0))], R] := hX21.of_all1
  refine r_op 6 rfl (by kernel_rfl) (o_assign (v := v11) rfl ?_)
  refine r_op 7 rfl (by kernel_rfl) (o_assign (v := v18) rfl ?_)
  refine Rest.done (by kernel_rfl) ?_
  refine t_norm (hK8 _ _ ?_)
  refine wp_seq_k fun K24 hK24 => ?_
  refine wp_seq_k fun K25 hK25 => ?_
  refine c_region ?_
  refine s_op (o_move (v := v11) rfl ?_)
  refine s_op (o_lenS Try.underlying78 rfl ho13.sl ?_)
  refine s_op (o_move (v := v18) rfl ?_)
  refine s_op (o_lenS Try.underlying84 rfl ho20.sl ?_)
  refine s_op (o_neq (a := (((holdsC v.keys owner).length : Nat) : Int)) (b := (((holdsR H owner).length : Nat) : Int)) rfl rfl ?_)
  refine s_nil ?_
  refine t_norm (hK25 _ _ ?_)
  refine c_cond rfl (fun h26 => ?_) (fun h26 => ?_)
  · -- (((holdsC v.keys owner).length : Nat) : Int) ≠ (((holdsR H owner).length : Nat) : Int)
    exact absurd (by rw [hrel.holds, List.length_map]) h26
  · -- not: (((holdsC v.keys owner).length : Nat) : Int) ≠ (((holdsR H owner).length : Nat) : Int)
    refine wp_skip ?_
    refine t_norm (hK24 _ _ ?_)
    refine wp_seq_k fun K27 hK27 => ?_
    refine wp_seq_k fun K28 hK28 => ?_
    refine c_region ?_
    refine s_op (o_assign (v := (.int .i64 0)) rfl ?_)
    refine s_nil ?_
    refine t_norm (hK28 _ _ ?_)
    refine wp_block ?_
    let I30 : Nat → (Nat → Value) → World → Prop := fun n__ r__ w__ => ∃ (k : Nat), n__ = (holdsC v.keys owner).length - k ∧ Has E w__ [s19, s12, [Hp.one b5 (.cells #[v_H, v_L] 86 (0, 0))], R] ∧ (k ≤ (holdsC v.keys owner).length) ∧ r__ 0 = (.pointer (some ⟨tb, 0, none⟩)) ∧ r__ 1 = (.agg #[v_H, v_L]) ∧ r__ 2 = (.int .i64 owner) ∧ r__ 3 = (S key) ∧ r__ 5 = (.pointer (some ⟨b5, 0, none⟩)) ∧ r__ 9 = v11 ∧ r__ 10 = v18 ∧ r__ 11 = (.int .i64 (k : Int)) ∧ r__ 28 = (.bool (decide ((((holdsC v.keys owner).length : Nat) : Int) ≠ (((holdsR H owner).length : Nat) : Int))))
    refine c_loop I30 _ ⟨0, rfl, hH22, Nat.zero_le _, rfl, rfl, rfl, rfl, rfl, rfl, rfl, rfl, rfl⟩ ?_
    rintro n_ r33 w31 ⟨k, rfl, hH32, hk, e29_0, e29_1, e29_2, e29_3, e29_5, e29_9, e29_10, e29_11, e29_28⟩
    have hb1_ := (ho13).sl.le
    have hb2_ := (ho20).sl.le
    refine wp_seq_k fun K34 hK34 => ?_
    refine wp_seq_k fun K35 hK35 => ?_
    refine c_region ?_
    refine s_op (o_move (v := (.int .i64 (k : Int))) e29_11 ?_)
    refine s_op (o_move (v := v11) e29_9 ?_)
    refine s_op (o_lenS Try.underlying78 rfl ho13.sl ?_)
    refine s_op (o_lss (a := (k : Int)) (b := (((holdsC v.keys owner).length : Nat) : Int)) rfl rfl ?_)
    refine s_nil ?_
    refine t_norm (hK35 _ _ ?_)
    refine c_cond rfl (fun h36 => ?_) (fun h36 => ?_)
    · -- (k : Int) < (((holdsC v.keys owner).length : Nat) : Int)
      refine wp_skip ?_
      refine t_norm (hK34 _ _ ?_)
      refine wp_seq_k fun K37 hK37 => ?_
      refine wp_block ?_
      refine wp_seq_k fun K38 hK38 => ?_
      refine Rest.region mixed (by kernel_rfl) ?_
      have hH39 : Has E { w31 with drawn := w31.drawn + 1 } [s19, s12, [Hp.one b5 (.cells #[v_H, v_L] 86 (0, 0))], R] := Has0.drew hH32 _
      refine Rest.phaseA (fun w_ => Has E w_ [s19, s12]) 0 10 10 rfl (by decide) (by kernel_rfl) ?_
      refine a_op 0 rfl (by kernel_rfl) (fun w_ h_ => o_move (v := v11) e29_9 ⟨rfl, rfl⟩) ?_
      refine a_op 1 rfl (by kernel_rfl) (fun w_ h_ => o_move (v := (.int .i64 (k : Int))) e29_11 ⟨rfl, rfl⟩) ?_
      obtain ⟨x43, hx44⟩ : ∃ x_, (holdsC v.keys owner)[((k : Int)).toNat]? = some x_ := get_some (by omega)
      obtain ⟨b40, o41, hc42, ho45⟩ := ix_exF clC_len Try.underlying78 ti74 ho13.sl (by omega) hx44
      refine a_op 2 rfl (by kernel_rfl) (fun w_ h_ => ho45 rfl rfl ⟨rfl, rfl⟩) ?_
      refine a_op 3 rfl (by kernel_rfl) (fun w_ h_ => o_fieldAddr (k := o41) (fun _ => by kernel_rfl) rfl ⟨rfl, rfl⟩) ?_
      refine a_op 4 rfl (by kernel_rfl) (fun w_ h_ => o_load1 (v := (S x43.1)) Try.underlying9 rfl rfl h_ (seg_sub 1 rfl) (CellsAt.field (k := 0) (ds := [(S x43.1)]) hc42 rfl) ⟨rfl, rfl⟩) ?_
      refine a_op 5 rfl (by kernel_rfl) (fun w_ h_ => o_move (v := v18) e29_10 ⟨rfl, rfl⟩) ?_
      refine a_op 6 rfl (by kernel_rfl) (fun w_ h_ => o_move (v := (.int .i64 (k : Int))) e29_11 ⟨rfl, rfl⟩) ?_
      obtain ⟨x49, hx50⟩ : ∃ x_, (holdsR H owner)[((k : Int)).toNat]? = some x_ := get_some (by omega)
      obtain ⟨b46, o47, hc48, ho51⟩ := ix_exF rcC_len Try.underlying84 ti183 ho20.sl (by omega) hx50
      refine a_op 7 rfl (by kernel_rfl) (fun w_ h_ => ho51 rfl rfl ⟨rfl, rfl⟩) ?_
      refine a_op 8 rfl (by kernel_rfl) (fun w_ h_ => o_fieldAddr (k := o47 + 1) (fun _ => by kernel_rfl) rfl ⟨rfl, rfl⟩) ?_
      refine a_op 9 rfl (by kernel_rfl) (fun w_ h_ => o_load1 (v := (S x49.key)) Try.underlying9 rfl rfl h_ (seg_sub 0 rfl) (CellsAt.field (k := 1) (ds := [(S x49.key)]) hc48 rfl) ⟨rfl, rfl⟩) ?_
      have hH52 : Has E { w31 with drawn := w31.drawn + 1 } [s19, s12] := ((hH39.front 1 rfl).front 1 rfl).first 2 rfl
      refine a_done (by kernel_rfl) hH52 ?_
      refine r_op 10 rfl (by kernel_rfl) (o_sneq (a := x43.1) (b := x49.key) rfl rfl ?_)
      refine r_op 11 rfl (by kernel_rfl) (o_move (v := (.bool (decide (x43.1 ≠ x49.key)))) rfl ?_)
      refine Rest.phaseA (fun w_ => Has E w_ [s19, s12]) 12 22 10 rfl (by decide) (by kernel_rfl) ?_
      by_cases h53 : x43.1 ≠ x49.key
      · -- x43.1 ≠ x49.key
        exact absurd (by rw [hrel.look (show (holdsC v.keys owner)[k]? = some _ from hx44) (show (holdsR H owner)[k]? = some _ from hx50)]) h53
      · -- not: x43.1 ≠ x49.key
        refine a_on 12 rfl (by kernel_rfl) 46 rfl (congrArg Value.bool (decide_eq_false h53)) (fun w_ h_ => o_move (v := v11) e29_9 ⟨rfl, rfl⟩) ?_
        refine a_on 13 rfl (by kernel_rfl) 46 rfl (congrArg Value.bool (decide_eq_false h53)) (fun w_ h_ => o_move (v := (.int .i64 (k : Int))) e29_11 ⟨rfl, rfl⟩) ?_
        obtain ⟨b54, o55, hc56, ho57⟩ := ix_exF clC_len Try.underlying78 ti74 ho13.sl (by omega) hx44
        refine a_on 14 rfl (by kernel_rfl) 46 rfl (congrArg Value.bool (decide_eq_false h53)) (fun w_ h_ => ho57 rfl rfl ⟨rfl, rfl⟩) ?_
        refine a_on 15 rfl (by kernel_rfl) 46 rfl (congrArg Value.bool (decide_eq_false h53)) (fun w_ h_ => o_fieldAddr (k := o55 + 1) (fun _ => by kernel_rfl) rfl ⟨rfl, rfl⟩) ?_
        refine a_on 16 rfl (by kernel_rfl) 46 rfl (congrArg Value.bool (decide_eq_false h53)) (fun w_ h_ => o_load1 (v := (.bool x43.2)) Try.underlying4 rfl rfl h_ (seg_sub 1 rfl) (CellsAt.field (k := 1) (ds := [(.bool x43.2)]) hc56 rfl) ⟨rfl, rfl⟩) ?_
        refine a_on 17 rfl (by kernel_rfl) 46 rfl (congrArg Value.bool (decide_eq_false h53)) (fun w_ h_ => o_move (v := v18) e29_10 ⟨rfl, rfl⟩) ?_
        refine a_on 18 rfl (by kernel_rfl) 46 rfl (congrArg Value.bool (decide_eq_false h53)) (fun w_ h_ => o_move (v := (.int .i64 (k : Int))) e29_11 ⟨rfl, rfl⟩) ?_
        obtain ⟨b58, o59, hc60, ho61⟩ := ix_exF rcC_len Try.underlying84 ti183 ho20.sl (by omega) hx50
        refine a_on 19 rfl (by kernel_rfl) 46 rfl (congrArg Value.bool (decide_eq_false h53)) (fun w_ h_ => ho61 rfl rfl ⟨rfl, rfl⟩) ?_
        refine a_on 20 rfl (by kernel_rfl) 46 rfl (congrArg Value.bool (decide_eq_false h53)) (fun w_ h_ => o_fieldAddr (k := o59 + 2) (fun _ => by kernel_rfl) rfl ⟨rfl, rfl⟩) ?_
        refine a_on 21 rfl (by kernel_rfl) 46 rfl (congrArg Value.bool (decide_eq_false h53)) (fun w_ h_ => o_load1 (v := (.bool x49.wr)) Try.underlying4 rfl rfl h_ (seg_sub 0 rfl) (CellsAt.field (k := 2) (ds := [(.bool x49.wr)]) hc60 rfl) ⟨rfl, rfl⟩) ?_
        have hH62 : Has E { w31 with drawn := w31.drawn + 1 } [s19, s12] := ((hH39.front 1 rfl).front 1 rfl).first 2 rfl
        refine a_done (by kernel_rfl) hH62 ?_
        refine r_on 22 rfl (by kernel_rfl) 46 rfl (congrArg Value.bool (decide_eq_false h53)) (o_neqb Try.underlying4 rfl rfl ?_)
        refine r_op 23 rfl (by kernel_rfl) (o_pick_f (u := (.bool (!(x43.2 == x49.wr)))) ((rfl : _ = _).trans (congrArg Value.bool (decide_eq_false h53))) rfl ?_)
        refine Rest.done (by kernel_rfl) ?_
        refine t_norm (hK38 _ _ ?_)
        refine c_condb rfl (fun h63 => ?_) (fun h63 => ?_)
        · -- !(x43.2 == x49.wr)
          exact absurd h63 (by rw [hrel.look (show (holdsC v.keys owner)[k]? = some _ from hx44) (show (holdsR H owner)[k]? = some _ from hx50)]; simp)
        · -- not: !(x43.2 == x49.wr)
          refine wp_skip ?_
          refine b_norm ?_
          refine t_norm (hK37 _ _ ?_)
          refine c_region ?_
          refine s_op (o_move (v := (.int .i64 (k : Int))) e29_11 ?_)
          refine s_op (o_add (a := (k : Int)) (b := 1) rfl rfl (w64 (by omega) (by omega)) ?_)
          refine s_op (o_assign (v := (.int .i64 ((k : Int) + 1))) rfl ?_)
          refine s_nil ?_
          refine t_norm ⟨(holdsC v.keys owner).length - (k + 1), _, rfl, ?_, ?_⟩
          · omega
          · exact ⟨(k + 1), rfl, hH39, (by omega), e29_0, e29_1, e29_2, e29_3, e29_5, e29_9, e29_10, rfl, e29_28⟩
    · -- not: (k : Int) < (((holdsC v.keys owner).length : Nat) : Int)
      refine wp_exit ?_
      refine t_exit (t_exit (x_in (?_)))
      refine t_norm (hK27 _ _ ?_)
      refine wp_seq_k fun K64 hK64 => ?_
      refine c_region ?_
      refine s_op (o_move (v := (.pointer (some ⟨tb, 0, none⟩))) e29_0 ?_)
      refine s_op (o_move (v := (.int .i64 owner)) e29_2 ?_)
      refine s_op (o_callf (vs := #[(.pointer (some ⟨tb, 0, none⟩)), (.int .i64 owner)]) ca44 rfl (args2 rfl rfl) (waits_c (v := v) (o := owner) hH32.all ((TbRd.mk hc3 f2).mono (seg_sub 3 rfl)) (hb.hkl) (hb.hkn (by omega))) ?_)
      rintro _ w67 ⟨rfl, hX65⟩
      refine ⟨_, rfl, ?_⟩
      have hH66 := hX65.of_all
      refine s_op (o_move (v := (.tuple #[(.agg #[(S (((waitsS v.keys owner).map (·.key)).getD [])), (.bool (((waitsS v.keys owner).map (·.wr)).getD false))]), (.bool ((waitsS v.keys owner).isSome))])) rfl ?_)
      refine s_op (o_extract (v := (.agg #[(S (((waitsS v.keys owner).map (·.key)).getD [])), (.bool (((waitsS v.keys owner).map (·.wr)).getD false))])) rfl rfl ?_)
      refine s_op (o_extract (v := (.bool ((waitsS v.keys owner).isSome))) rfl rfl ?_)
      refine s_op (o_alloc (cs := #[(S ([] : List UInt8)), (.bool false)]) ti74 rfl hH66 fun b68 w69 hH70 => ?_)
      refine s_eff (o_storeN (vs := [(S (((waitsS v.keys owner).map (·.key)).getD [])), (.bool (((waitsS v.keys owner).map (·.wr)).getD false))]) (c' := #[(S (((waitsS v.keys owner).map (·.key)).getD [])), (.bool (((waitsS v.keys owner).map (·.wr)).getD false))]) ti74 rfl rfl rfl rfl (by intro u hu; simp only [List.mem_cons, List.not_mem_nil, or_false] at hu; rcases hu with rfl | rfl <;> first | rfl) (by simp) (by kernel_rfl) (hH70.front 0 rfl) fun w71 hH72 => ?_)
      refine s_op (o_assign (v := (.bool ((waitsS v.keys owner).isSome))) rfl ?_)
      refine s_nil ?_
      refine t_norm (hK64 _ _ ?_)
      refine wp_seq_k fun K73 hK73 => ?_
      refine c_region ?_
      refine s_op (o_loadN (cs := [v_H, v_L]) Try.underlying86 rfl ti86 e29_5 hH72 (seg_sub 3 rfl) (CellsAt.one rfl) ?_)
      refine s_op (o_move (v := (.int .i64 owner)) e29_2 ?_)
      refine s_op (o_callf (vs := #[(.agg #[v_H, v_L]), (.int .i64 owner)]) ca101 rfl (args2 rfl rfl) (rwaits_c (H := H) (L := L) (owner := owner) hH72.all (h_H.mono (seg_sub 4 rfl)) (h_L.mono (seg_sub 4 rfl))) ?_)
      rintro _ w76 ⟨rfl, hX74⟩
      refine ⟨_, rfl, ?_⟩
      have hH75 := hX74.of_all
      have := idxG_lt (ownIs owner) L
      refine s_op (o_assign (v := (.int .i64 (idxG (ownIs owner) L))) rfl ?_)
      refine s_nil ?_
      refine t_norm (hK73 _ _ ?_)
      refine wp_seq_k fun K77 hK77 => ?_
      refine wp_seq_k fun K78 hK78 => ?_
      refine Rest.region mixed (by kernel_rfl) ?_
      have hH79 : Has E { w76 with drawn := w76.drawn + 1 } [[Hp.one b68 (.cells #[(S (((waitsS v.keys owner).map (·.key)).getD [])), (.bool (((waitsS v.keys owner).map (·.wr)).getD false))] 74 (0, 0))], s19, s12, [Hp.one b5 (.cells #[v_H, v_L] 86 (0, 0))], R] := Has0.drew hH75 _
      refine Rest.phaseA (fun w_ => Has E w_ []) 0 3 3 rfl (by decide) (by kernel_rfl) ?_
      refine a_op 0 rfl (by kernel_rfl) (fun w_ h_ => o_move (v := (.bool ((waitsS v.keys owner).isSome))) rfl ⟨rfl, rfl⟩) ?_
      refine a_op 1 rfl (by kernel_rfl) (fun w_ h_ => o_move (v := (.int .i64 (idxG (ownIs owner) L))) rfl ⟨rfl, rfl⟩) ?_
      refine a_op 2 rfl (by kernel_rfl) (fun w_ h_ => o_geq (a := (idxG (ownIs owner) L)) (b := 0) rfl rfl ⟨rfl, rfl⟩) ?_
      have hH80 : Has E { w76 with drawn := w76.drawn + 1 } [] := hH79.first 0 rfl
      refine a_done (by kernel_rfl) hH80 ?_
      refine r_op 3 rfl (by kernel_rfl) (o_neqb Try.underlying4 rfl rfl ?_)
      refine r_op 4 rfl (by kernel_rfl) (o_move (v := (.bool (!(((waitsS v.keys owner).isSome) == (decide (0 ≤ (idxG (ownIs owner) L))))))) rfl ?_)
      rcases Bool.eq_false_or_eq_true (!(((waitsS v.keys owner).isSome) == (decide (0 ≤ (idxG (ownIs owner) L))))) with h81 | h81
      · -- !(((waitsS v.keys owner).isSome) == (decide (0 ≤ (idxG (ownIs owner) L))))
        exact absurd h81 (by rw [hrel.isw]; simp)
      · -- not: !(((waitsS v.keys owner).isSome) == (decide (0 ≤ (idxG (ownIs owner) L))))
        refine r_on 5 rfl (by kernel_rfl) 72 rfl (congrArg Value.bool h81) (o_move (v := (.bool ((waitsS v.keys owner).isSome))) rfl ?_)
        refine r_on 6 rfl (by kernel_rfl) 72 rfl (congrArg Value.bool h81) (o_move (v := (.bool ((waitsS v.keys owner).isSome))) rfl ?_)
        refine Rest.phaseA (fun w_ => Has E w_ [[Hp.one b68 (.cells #[(S (((waitsS v.keys owner).map (·.key)).getD [])), (.bool (((waitsS v.keys owner).map (·.wr)).getD false))] 74 (0, 0))], [Hp.one b5 (.cells #[v_H, v_L] 86 (0, 0))], R]) 7 15 8 rfl (by decide) (by kernel_rfl) ?_
        rcases Bool.eq_false_or_eq_true ((waitsS v.keys owner).isSome) with h82 | h82
        · -- (waitsS v.keys owner).isSome
          have hio_ : 0 ≤ (idxG (ownIs owner) L) := by rw [hrel.isw] at h82; exact of_decide_eq_true h82
          refine a_on 7 rfl (by kernel_rfl) 74 rfl (congrArg Value.bool h82) (fun w_ h_ => o_fieldAddr (k := 0) (fun _ => by kernel_rfl) rfl ⟨rfl, rfl⟩) ?_
          refine a_on 8 rfl (by kernel_rfl) 74 rfl (congrArg Value.bool h82) (fun w_ h_ => o_load1 (v := (S (((waitsS v.keys owner).map (·.key)).getD []))) Try.underlying9 rfl rfl h_ (seg_sub 0 rfl) (CellsAt.one rfl) ⟨rfl, rfl⟩) ?_
          refine a_on 9 rfl (by kernel_rfl) 74 rfl (congrArg Value.bool h82) (fun w_ h_ => o_fieldAddr (k := 1) (fun _ => by kernel_rfl) e29_5 ⟨rfl, rfl⟩) ?_
          refine a_on 10 rfl (by kernel_rfl) 74 rfl (congrArg Value.bool h82) (fun w_ h_ => o_load1 (v := v_L) Try.underlying84 rfl rfl h_ (seg_sub 1 rfl) (CellsAt.one rfl) ⟨rfl, rfl⟩) ?_
          refine a_on 11 rfl (by kernel_rfl) 74 rfl (congrArg Value.bool h82) (fun w_ h_ => o_move (v := (.int .i64 (idxG (ownIs owner) L))) rfl ⟨rfl, rfl⟩) ?_
          obtain ⟨x86, hx87⟩ : ∃ x_, L[((idxG (ownIs owner) L)).toNat]? = some x_ := get_some (by omega)
          obtain ⟨b83, o84, hc85, ho88⟩ := ix_exF rcC_len Try.underlying84 ti183 h_L (by omega) hx87
          refine a_on 12 rfl (by kernel_rfl) 74 rfl (congrArg Value.bool h82) (fun w_ h_ => ho88 rfl rfl ⟨rfl, rfl⟩) ?_
          refine a_on 13 rfl (by kernel_rfl) 74 rfl (congrArg Value.bool h82) (fun w_ h_ => o_fieldAddr (k := o84 + 1) (fun _ => by kernel_rfl) rfl ⟨rfl, rfl⟩) ?_
          refine a_on 14 rfl (by kernel_rfl) 74 rfl (congrArg Value.bool h82) (fun w_ h_ => o_load1 (v := (S x86.key)) Try.underlying9 rfl rfl h_ (seg_sub 2 rfl) (CellsAt.field (k := 1) (ds := [(S x86.key)]) hc85 rfl) ⟨rfl, rfl⟩) ?_
          have hH89 : Has E { w76 with drawn := w76.drawn + 1 } [[Hp.one b68 (.cells #[(S (((waitsS v.keys owner).map (·.key)).getD [])), (.bool (((waitsS v.keys owner).map (·.wr)).getD false))] 74 (0, 0))], [Hp.one b5 (.cells #[v_H, v_L] 86 (0, 0))], R] := (((hH79.front 4 rfl).front 4 rfl).front 2 rfl).first 3 rfl
          refine a_done (by kernel_rfl) hH89 ?_
          refine r_on 15 rfl (by kernel_rfl) 74 rfl (congrArg Value.bool h82) (o_sneq (a := (((waitsS v.keys owner).map (·.key)).getD [])) (b := x86.key) rfl rfl ?_)
          refine r_on 16 rfl (by kernel_rfl) 74 rfl (congrArg Value.bool h82) (o_move (v := (.bool (decide ((((waitsS v.keys owner).map (·.key)).getD []) ≠ x86.key)))) rfl ?_)
          refine Rest.phaseA (fun w_ => Has E w_ [[Hp.one b68 (.cells #[(S (((waitsS v.keys owner).map (·.key)).getD [])), (.bool (((waitsS v.keys owner).map (·.wr)).getD false))] 74 (0, 0))], [Hp.one b5 (.cells #[v_H, v_L] 86 (0, 0))], R]) 17 25 8 rfl (by decide) (by kernel_rfl) ?_
          by_cases h90 : (((waitsS v.keys owner).map (·.key)).getD []) ≠ x86.key
          · -- (((waitsS v.keys owner).map (·.key)).getD []) ≠ x86.key
            exact absurd (by rw [hrel.wx hio_ (show L[((idxG (ownIs owner) L)).toNat]? = some _ from hx87)]; rfl) h90
          · -- not: (((waitsS v.keys owner).map (·.key)).getD []) ≠ x86.key
            refine a_on 17 rfl (by kernel_rfl) 84 rfl (congrArg Value.bool (decide_eq_false h90)) (fun w_ h_ => o_fieldAddr (k := 1) (fun _ => by kernel_rfl) rfl ⟨rfl, rfl⟩) ?_
            refine a_on 18 rfl (by kernel_rfl) 84 rfl (congrArg Value.bool (decide_eq_false h90)) (fun w_ h_ => o_load1 (v := (.bool (((waitsS v.keys owner).map (·.wr)).getD false))) Try.underlying4 rfl rfl h_ (seg_sub 0 rfl) (CellsAt.one rfl) ⟨rfl, rfl⟩) ?_
            refine a_on 19 rfl (by kernel_rfl) 84 rfl (congrArg Value.bool (decide_eq_false h90)) (fun w_ h_ => o_fieldAddr (k := 1) (fun _ => by kernel_rfl) e29_5 ⟨rfl, rfl⟩) ?_
            refine a_on 20 rfl (by kernel_rfl) 84 rfl (congrArg Value.bool (decide_eq_false h90)) (fun w_ h_ => o_load1 (v := v_L) Try.underlying84 rfl rfl h_ (seg_sub 1 rfl) (CellsAt.one rfl) ⟨rfl, rfl⟩) ?_
            refine a_on 21 rfl (by kernel_rfl) 84 rfl (congrArg Value.bool (decide_eq_false h90)) (fun w_ h_ => o_move (v := (.int .i64 (idxG (ownIs owner) L))) rfl ⟨rfl, rfl⟩) ?_
            obtain ⟨b91, o92, hc93, ho94⟩ := ix_exF rcC_len Try.underlying84 ti183 h_L (by omega) hx87
            refine a_on 22 rfl (by kernel_rfl) 84 rfl (congrArg Value.bool (decide_eq_false h90)) (fun w_ h_ => ho94 rfl rfl ⟨rfl, rfl⟩) ?_
            refine a_on 23 rfl (by kernel_rfl) 84 rfl (congrArg Value.bool (decide_eq_false h90)) (fun w_ h_ => o_fieldAddr (k := o92 + 2) (fun _ => by kernel_rfl) rfl ⟨rfl, rfl⟩) ?_
            refine a_on 24 rfl (by kernel_rfl) 84 rfl (congrArg Value.bool (decide_eq_false h90)) (fun w_ h_ => o_load1 (v := (.bool x86.wr)) Try.underlying4 rfl rfl h_ (seg_sub 2 rfl) (CellsAt.field (k := 2) (ds := [(.bool x86.wr)]) hc93 rfl) ⟨rfl, rfl⟩) ?_
            have hH95 : Has E { w76 with drawn := w76.drawn + 1 } [[Hp.one b68 (.cells #[(S (((waitsS v.keys owner).map (·.key)).getD [])), (.bool (((waitsS v.keys owner).map (·.wr)).getD false))] 74 (0, 0))], [Hp.one b5 (.cells #[v_H, v_L] 86 (0, 0))], R] := (((hH79.front 4 rfl).front 4 rfl).front 2 rfl).first 3 rfl
            refine a_done (by kernel_rfl) hH95 ?_
            refine r_on 25 rfl (by kernel_rfl) 84 rfl (congrArg Value.bool (decide_eq_false h90)) (o_neqb Try.underlying4 rfl rfl ?_)
            refine r_on 26 rfl (by kernel_rfl) 74 rfl (congrArg Value.bool h82) (o_pick_f (u := (.bool (!((((waitsS v.keys owner).map (·.wr)).getD false) == x86.wr)))) ((rfl : _ = _).trans (congrArg Value.bool (decide_eq_false h90))) rfl ?_)
            refine r_on 27 rfl (by kernel_rfl) 72 rfl (congrArg Value.bool h81) (o_pick_t (u := (.bool (!((((waitsS v.keys owner).map (·.wr)).getD false) == x86.wr)))) ((rfl : _ = _).trans (congrArg Value.bool h82)) rfl ?_)
            refine r_op 28 rfl (by kernel_rfl) (o_pick_f (u := (.bool (!((((waitsS v.keys owner).map (·.wr)).getD false) == x86.wr)))) ((rfl : _ = _).trans (congrArg Value.bool h81)) rfl ?_)
            refine r_op 29 rfl (by kernel_rfl) (o_move (v := (.bool (!((((waitsS v.keys owner).map (·.wr)).getD false) == x86.wr)))) rfl ?_)
            rcases Bool.eq_false_or_eq_true (!((((waitsS v.keys owner).map (·.wr)).getD false) == x86.wr)) with h96 | h96
            · -- !((((waitsS v.keys owner).map (·.wr)).getD false) == x86.wr)
              exact absurd h96 (by rw [hrel.wx hio_ (show L[((idxG (ownIs owner) L)).toNat]? = some _ from hx87)]; simp)
            · -- not: !((((waitsS v.keys owner).map (·.wr)).getD false) == x86.wr)
              refine r_on 30 rfl (by kernel_rfl) 97 rfl (congrArg Value.bool h96) (o_move (v := (.bool ((waitsS v.keys owner).isSome))) rfl ?_)
              refine r_on 31 rfl (by kernel_rfl) 97 rfl (congrArg Value.bool h96) (o_not (b := true) ((rfl : _ = _).trans (congrArg Value.bool h82)) ?_)
              refine r_on 32 rfl (by kernel_rfl) 97 rfl (congrArg Value.bool h96) (o_move (v := (.bool false)) rfl ?_)
              refine Rest.phaseA (fun w_ => Has E w_ []) 33 35 2 rfl (by decide) (by kernel_rfl) ?_
              refine a_off (b' := false) 33 rfl (by kernel_rfl) 100 rfl rfl rfl ?_
              refine a_off (b' := false) 34 rfl (by kernel_rfl) 100 rfl rfl rfl ?_
              have hH97 : Has E { w76 with drawn := w76.drawn + 1 } [] := hH79.first 0 rfl
              refine a_done (by kernel_rfl) hH97 ?_
              refine r_off (b' := false) 35 rfl (by kernel_rfl) 100 rfl rfl rfl ?_
              refine r_on 36 rfl (by kernel_rfl) 97 rfl (congrArg Value.bool h96) (o_pick_f (u := (.bool false)) rfl rfl ?_)
              refine r_op 37 rfl (by kernel_rfl) (o_pick_f (u := (.bool false)) ((rfl : _ = _).trans (congrArg Value.bool h96)) rfl ?_)
              refine r_op 38 rfl (by kernel_rfl) (o_move (v := (.bool false)) rfl ?_)
              refine Rest.phaseA (fun w_ => Has E w_ [[Hp.one b5 (.cells #[v_H, v_L] 86 (0, 0))]]) 39 44 5 rfl (by decide) (by kernel_rfl) ?_
              refine a_on 39 rfl (by kernel_rfl) 106 rfl rfl (fun w_ h_ => o_move (v := (.pointer (some ⟨tb, 0, none⟩))) e29_0 ⟨rfl, rfl⟩) ?_
              refine a_on 40 rfl (by kernel_rfl) 106 rfl rfl (fun w_ h_ => o_move (v := (S key)) e29_3 ⟨rfl, rfl⟩) ?_
              refine a_on 42 rfl (by kernel_rfl) 106 rfl rfl (fun w_ h_ => o_loadN (cs := [v_H, v_L]) Try.underlying86 rfl ti86 e29_5 h_ (seg_sub 0 rfl) (CellsAt.one rfl) ⟨rfl, rfl⟩) ?_
              refine a_on 43 rfl (by kernel_rfl) 106 rfl rfl (fun w_ h_ => o_move (v := (S key)) e29_3 ⟨rfl, rfl⟩) ?_
              have hH98 : Has E { w76 with drawn := w76.drawn + 1 } [[Hp.one b5 (.cells #[v_H, v_L] 86 (0, 0))]] := (hH79.front 3 rfl).first 1 rfl
              refine a_won 41 rfl (by kernel_rfl) hH98 106 rfl rfl (o_callf (vs := #[(.pointer (some ⟨tb, 0, none⟩)), (S key)]) ca48 rfl (args2 rfl rfl) (line_c (v := v) (key := key) hH79.all ((TbRd.mk hc3 f2).mono (seg_sub 4 rfl)) (hb.sz (by omega))) ?_)
              rintro _ w104 ⟨v99, s100, rfl, ho101, hX102⟩
              refine ⟨_, rfl, ?_⟩
              have hH103 : Has E w104 [s100, [Hp.one b68 (.cells #[(S (((waitsS v.keys owner).map (·.key)).getD [])), (.bool (((waitsS v.keys owner).map (·.wr)).getD false))] 74 (0, 0))], s19, s12, [Hp.one b5 (.cells #[v_H, v_L] 86 (0, 0))], R] := hX102.of_all1
              have hle105 : (linS v.keys key).length ≤ 1000 := linS_le (hb.sz (by omega)) _
              have hH106 : Has E w104 [[Hp.one b5 (.cells #[v_H, v_L] 86 (0, 0))]] := (hH103.front 4 rfl).first 1 rfl
              refine a_done (by kernel_rfl) hH106 ?_
              refine r_on 44 rfl (by kernel_rfl) 106 rfl rfl (o_callf (vs := #[(.agg #[v_H, v_L]), (S key)]) ca102 rfl (args2 rfl rfl) (rof_c (H := H) (L := L) (key := key) hH103.all (h_H.mono (seg_sub 5 rfl)) (h_L.mono (seg_sub 5 rfl)) (by first | omega | (simp only []; omega) | (simp; done) | (simp; omega))) ?_)
              rintro _ w112 ⟨v107, s108, rfl, ho109, hX110⟩
              refine ⟨_, rfl, ?_⟩
              have hH111 : Has E w112 [s108, s100, [Hp.one b68 (.cells #[(S (((waitsS v.keys owner).map (·.key)).getD [])), (.bool (((waitsS v.keys owner).map (·.wr)).getD false))] 74 (0, 0))], s19, s12, [Hp.one b5 (.cells #[v_H, v_L] 86 (0, 0))], R] := hX110.of_all1
              refine r_on 45 rfl (by kernel_rfl) 106 rfl rfl (o_callf (vs := #[v99, v107]) ca49 rfl (args2 rfl rfl) (same_c hH111.all (a := (linS v.keys key)) (b := (ofR L key)) (ho101.sl.mono (seg_sub 1 rfl)) (ho109.sl.mono (seg_sub 0 rfl))) ?_)
              rintro _ w115 ⟨rfl, hX113⟩
              refine ⟨_, rfl, ?_⟩
              have hH114 := hX113.of_all
              refine r_on 46 rfl (by kernel_rfl) 106 rfl rfl (o_not2 (b := decide ((linS v.keys key) = (ofR L key))) (b' := decide (¬ ((linS v.keys key) = (ofR L key)))) rfl not_dec ?_)
              refine r_op 47 rfl (by kernel_rfl) (o_pick_f (u := (.bool (decide (¬ ((linS v.keys key) = (ofR L key)))))) rfl rfl ?_)
              refine Rest.done (by kernel_rfl) ?_
              refine t_norm (hK78 _ _ ?_)
              refine c_cond rfl (fun h116 => ?_) (fun h116 => ?_)
              · -- ¬ ((linS v.keys key) = (ofR L key))
                exact absurd (hrel.of key) h116
              · -- not: ¬ ((linS v.keys key) = (ofR L key))
                refine wp_skip ?_
                refine t_norm (hK77 _ _ ?_)
                refine wp_seq_k fun K117 hK117 => ?_
                refine Rest.region mixed (by kernel_rfl) ?_
                have hH118 : Has E { w115 with drawn := w115.drawn + 1 } [s108, s100, [Hp.one b68 (.cells #[(S (((waitsS v.keys owner).map (·.key)).getD [])), (.bool (((waitsS v.keys owner).map (·.wr)).getD false))] 74 (0, 0))], s19, s12, [Hp.one b5 (.cells #[v_H, v_L] 86 (0, 0))], R] := Has0.drew hH114 _
                refine Rest.phaseA (fun w_ => Has E w_ [[Hp.one b5 (.cells #[v_H, v_L] 86 (0, 0))]]) 0 3 3 rfl (by decide) (by kernel_rfl) ?_
                refine a_op 0 rfl (by kernel_rfl) (fun w_ h_ => o_move (v := (.pointer (some ⟨tb, 0, none⟩))) e29_0 ⟨rfl, rfl⟩) ?_
                refine a_op 2 rfl (by kernel_rfl) (fun w_ h_ => o_loadN (cs := [v_H, v_L]) Try.underlying86 rfl ti86 e29_5 h_ (seg_sub 0 rfl) (CellsAt.one rfl) ⟨rfl, rfl⟩) ?_
                have hH119 : Has E { w115 with drawn := w115.drawn + 1 } [[Hp.one b5 (.cells #[v_H, v_L] 86 (0, 0))]] := (hH118.front 5 rfl).first 1 rfl
                refine a_w 1 rfl (by kernel_rfl) hH119 (o_callf (vs := #[(.pointer (some ⟨tb, 0, none⟩))]) ca45 rfl (args1 rfl) (edges_c (v := v) hH118.all ((TbRd.mk hc3 f2).mono (seg_sub 6 rfl)) (hb.hkl) (hb.hkn (by omega)) (hb.sz (by omega))) ?_)
                rintro _ w125 ⟨v120, s121, rfl, ho122, hX123⟩
                refine ⟨_, rfl, ?_⟩
                have hH124 : Has E w125 [s121, s108, s100, [Hp.one b68 (.cells #[(S (((waitsS v.keys owner).map (·.key)).getD [])), (.bool (((waitsS v.keys owner).map (·.wr)).getD false))] 74 (0, 0))], s19, s12, [Hp.one b5 (.cells #[v_H, v_L] 86 (0, 0))], R] := hX123.of_all1
                have hH126 : Has E w125 [[Hp.one b5 (.cells #[v_H, v_L] 86 (0, 0))]] := (hH124.front 6 rfl).first 1 rfl
                refine a_done (by kernel_rfl) hH126 ?_
                refine r_op 3 rfl (by kernel_rfl) (o_callf (vs := #[(.agg #[v_H, v_L])]) ca103 rfl (args1 rfl) (redges_c (H := H) (L := L) hH124.all (h_H.mono (seg_sub 7 rfl)) (h_L.mono (seg_sub 7 rfl)) (by first | omega | (simp only []; omega) | (simp; done) | (simp; omega))) ?_)
                rintro _ w132 ⟨v127, s128, rfl, ho129, hX130⟩
                refine ⟨_, rfl, ?_⟩
                have hH131 : Has E w132 [s128, s121, s108, s100, [Hp.one b68 (.cells #[(S (((waitsS v.keys owner).map (·.key)).getD [])), (.bool (((waitsS v.keys owner).map (·.wr)).getD false))] 74 (0, 0))], s19, s12, [Hp.one b5 (.cells #[v_H, v_L] 86 (0, 0))], R] := hX130.of_all1
                refine r_op 4 rfl (by kernel_rfl) (o_assign (v := v120) rfl ?_)
                refine r_op 5 rfl (by kernel_rfl) (o_assign (v := v127) rfl ?_)
                refine Rest.done (by kernel_rfl) ?_
                refine t_norm (hK117 _ _ ?_)
                refine wp_seq_k fun K133 hK133 => ?_
                refine wp_seq_k fun K134 hK134 => ?_
                refine c_region ?_
                refine s_op (o_move (v := v120) rfl ?_)
                refine s_op (o_lenS Try.underlying82 rfl ho122.sl ?_)
                refine s_op (o_move (v := v127) rfl ?_)
                refine s_op (o_lenS Try.underlying185 rfl ho129.sl ?_)
                refine s_op (o_neq (a := (((edgesS v.keys).length : Nat) : Int)) (b := (((edgesR H L).length : Nat) : Int)) rfl rfl ?_)
                refine s_nil ?_
                refine t_norm (hK134 _ _ ?_)
                refine c_cond rfl (fun h135 => ?_) (fun h135 => ?_)
                · -- (((edgesS v.keys).length : Nat) : Int) ≠ (((edgesR H L).length : Nat) : Int)
                  exact absurd (by rw [hrel.edges]) h135
                · -- not: (((edgesS v.keys).length : Nat) : Int) ≠ (((edgesR H L).length : Nat) : Int)
                  refine wp_skip ?_
                  refine t_norm (hK133 _ _ ?_)
                  refine wp_seq_k fun K136 hK136 => ?_
                  refine wp_seq_k fun K137 hK137 => ?_
                  refine c_region ?_
                  refine s_op (o_assign (v := (.int .i64 0)) rfl ?_)
                  refine s_nil ?_
                  refine t_norm (hK137 _ _ ?_)
                  refine wp_block ?_
                  let I139 : Nat → (Nat → Value) → World → Prop := fun n__ r__ w__ => ∃ (k2 : Nat), n__ = (edgesS v.keys).length - k2 ∧ Has E w__ [s128, s121, s108, s100, [Hp.one b68 (.cells #[(S (((waitsS v.keys owner).map (·.key)).getD [])), (.bool (((waitsS v.keys owner).map (·.wr)).getD false))] 74 (0, 0))], s19, s12, [Hp.one b5 (.cells #[v_H, v_L] 86 (0, 0))], R] ∧ (k2 ≤ (edgesS v.keys).length) ∧ r__ 0 = (.pointer (some ⟨tb, 0, none⟩)) ∧ r__ 1 = (.agg #[v_H, v_L]) ∧ r__ 2 = (.int .i64 owner) ∧ r__ 3 = (S key) ∧ r__ 5 = (.pointer (some ⟨b5, 0, none⟩)) ∧ r__ 9 = v11 ∧ r__ 10 = v18 ∧ r__ 11 = (.int .i64 (k : Int)) ∧ r__ 12 = (.pointer (some ⟨b68, 0, none⟩)) ∧ r__ 13 = (.bool ((waitsS v.keys owner).isSome)) ∧ r__ 14 = (.int .i64 (idxG (ownIs owner) L)) ∧ r__ 15 = v120 ∧ r__ 16 = v127 ∧ r__ 17 = (.int .i64 (k2 : Int)) ∧ r__ 28 = (.bool (decide ((((holdsC v.keys owner).length : Nat) : Int) ≠ (((holdsR H owner).length : Nat) : Int)))) ∧ r__ 32 = (.bool (decide ((k : Int) < (((holdsC v.keys owner).length : Nat) : Int)))) ∧ r__ 115 = (.bool (decide (¬ ((linS v.keys key) = (ofR L key))))) ∧ r__ 124 = (.bool (decide ((((edgesS v.keys).length : Nat) : Int) ≠ (((edgesR H L).length : Nat) : Int))))
                  refine c_loop I139 _ ⟨0, rfl, hH131, Nat.zero_le _, e29_0, e29_1, e29_2, e29_3, e29_5, e29_9, e29_10, e29_11, rfl, rfl, rfl, rfl, rfl, rfl, e29_28, rfl, rfl, rfl⟩ ?_
                  rintro n_ r142 w140 ⟨k2, rfl, hH141, hk2, e138_0, e138_1, e138_2, e138_3, e138_5, e138_9, e138_10, e138_11, e138_12, e138_13, e138_14, e138_15, e138_16, e138_17, e138_28, e138_32, e138_115, e138_124⟩
                  have hb1_ := (ho122).sl.le
                  have hb2_ := (ho129).sl.le
                  refine wp_seq_k fun K143 hK143 => ?_
                  refine wp_seq_k fun K144 hK144 => ?_
                  refine c_region ?_
                  refine s_op (o_move (v := (.int .i64 (k2 : Int))) e138_17 ?_)
                  refine s_op (o_move (v := v120) e138_15 ?_)
                  refine s_op (o_lenS Try.underlying82 rfl ho122.sl ?_)
                  refine s_op (o_lss (a := (k2 : Int)) (b := (((edgesS v.keys).length : Nat) : Int)) rfl rfl ?_)
                  refine s_nil ?_
                  refine t_norm (hK144 _ _ ?_)
                  refine c_cond rfl (fun h145 => ?_) (fun h145 => ?_)
                  · -- (k2 : Int) < (((edgesS v.keys).length : Nat) : Int)
                    refine wp_skip ?_
                    refine t_norm (hK143 _ _ ?_)
                    refine wp_seq_k fun K146 hK146 => ?_
                    refine wp_block ?_
                    refine wp_seq_k fun K147 hK147 => ?_
                    refine Rest.region mixed (by kernel_rfl) ?_
                    have hH148 : Has E { w140 with drawn := w140.drawn + 1 } [s128, s121, s108, s100, [Hp.one b68 (.cells #[(S (((waitsS v.keys owner).map (·.key)).getD [])), (.bool (((waitsS v.keys owner).map (·.wr)).getD false))] 74 (0, 0))], s19, s12, [Hp.one b5 (.cells #[v_H, v_L] 86 (0, 0))], R] := Has0.drew hH141 _
                    refine Rest.phaseA (fun w_ => Has E w_ [s128, s121]) 0 10 10 rfl (by decide) (by kernel_rfl) ?_
                    refine a_op 0 rfl (by kernel_rfl) (fun w_ h_ => o_move (v := v120) e138_15 ⟨rfl, rfl⟩) ?_
                    refine a_op 1 rfl (by kernel_rfl) (fun w_ h_ => o_move (v := (.int .i64 (k2 : Int))) e138_17 ⟨rfl, rfl⟩) ?_
                    obtain ⟨x152, hx153⟩ : ∃ x_, (edgesS v.keys)[((k2 : Int)).toNat]? = some x_ := get_some (by omega)
                    obtain ⟨b149, o150, hc151, ho154⟩ := ix_exF tmC_len Try.underlying82 ti95 ho122.sl (by omega) hx153
                    refine a_op 2 rfl (by kernel_rfl) (fun w_ h_ => ho154 rfl rfl ⟨rfl, rfl⟩) ?_
                    refine a_op 3 rfl (by kernel_rfl) (fun w_ h_ => o_fieldAddr (k := o150) (fun _ => by kernel_rfl) rfl ⟨rfl, rfl⟩) ?_
                    refine a_op 4 rfl (by kernel_rfl) (fun w_ h_ => o_load1 (v := (.int .i64 x152.1)) Try.underlying3 rfl rfl h_ (seg_sub 1 rfl) (CellsAt.field (k := 0) (ds := [(.int .i64 x152.1)]) hc151 rfl) ⟨rfl, rfl⟩) ?_
                    refine a_op 5 rfl (by kernel_rfl) (fun w_ h_ => o_move (v := v127) e138_16 ⟨rfl, rfl⟩) ?_
                    refine a_op 6 rfl (by kernel_rfl) (fun w_ h_ => o_move (v := (.int .i64 (k2 : Int))) e138_17 ⟨rfl, rfl⟩) ?_
                    obtain ⟨x158, hx159⟩ : ∃ x_, (edgesR H L)[((k2 : Int)).toNat]? = some x_ := get_some (by omega)
                    obtain ⟨b155, o156, hc157, ho160⟩ := ix_exF tmC_len Try.underlying185 ti187 ho129.sl (by omega) hx159
                    refine a_op 7 rfl (by kernel_rfl) (fun w_ h_ => ho160 rfl rfl ⟨rfl, rfl⟩) ?_
                    refine a_op 8 rfl (by kernel_rfl) (fun w_ h_ => o_fieldAddr (k := o156) (fun _ => by kernel_rfl) rfl ⟨rfl, rfl⟩) ?_
                    refine a_op 9 rfl (by kernel_rfl) (fun w_ h_ => o_load1 (v := (.int .i64 x158.1)) Try.underlying3 rfl rfl h_ (seg_sub 0 rfl) (CellsAt.field (k := 0) (ds := [(.int .i64 x158.1)]) hc157 rfl) ⟨rfl, rfl⟩) ?_
                    have hH161 : Has E { w140 with drawn := w140.drawn + 1 } [s128, s121] := ((hH148.front 1 rfl).front 1 rfl).first 2 rfl
                    refine a_done (by kernel_rfl) hH161 ?_
                    refine r_op 10 rfl (by kernel_rfl) (o_neq (a := x152.1) (b := x158.1) rfl rfl ?_)
                    refine r_op 11 rfl (by kernel_rfl) (o_move (v := (.bool (decide (x152.1 ≠ x158.1)))) rfl ?_)
                    refine Rest.phaseA (fun w_ => Has E w_ [s128, s121]) 12 22 10 rfl (by decide) (by kernel_rfl) ?_
                    by_cases h162 : x152.1 ≠ x158.1
                    · -- x152.1 ≠ x158.1
                      exact absurd (by rw [hrel.look2 (show (edgesS v.keys)[k2]? = some _ from hx153) (show (edgesR H L)[k2]? = some _ from hx159)]) h162
                    · -- not: x152.1 ≠ x158.1
                      refine a_on 12 rfl (by kernel_rfl) 142 rfl (congrArg Value.bool (decide_eq_false h162)) (fun w_ h_ => o_move (v := v120) e138_15 ⟨rfl, rfl⟩) ?_
                      refine a_on 13 rfl (by kernel_rfl) 142 rfl (congrArg Value.bool (decide_eq_false h162)) (fun w_ h_ => o_move (v := (.int .i64 (k2 : Int))) e138_17 ⟨rfl, rfl⟩) ?_
                      obtain ⟨b163, o164, hc165, ho166⟩ := ix_exF tmC_len Try.underlying82 ti95 ho122.sl (by omega) hx153
                      refine a_on 14 rfl (by kernel_rfl) 142 rfl (congrArg Value.bool (decide_eq_false h162)) (fun w_ h_ => ho166 rfl rfl ⟨rfl, rfl⟩) ?_
                      refine a_on 15 rfl (by kernel_rfl) 142 rfl (congrArg Value.bool (decide_eq_false h162)) (fun w_ h_ => o_fieldAddr (k := o164 + 1) (fun _ => by kernel_rfl) rfl ⟨rfl, rfl⟩) ?_
                      refine a_on 16 rfl (by kernel_rfl) 142 rfl (congrArg Value.bool (decide_eq_false h162)) (fun w_ h_ => o_load1 (v := (.int .i64 x152.2)) Try.underlying3 rfl rfl h_ (seg_sub 1 rfl) (CellsAt.field (k := 1) (ds := [(.int .i64 x152.2)]) hc165 rfl) ⟨rfl, rfl⟩) ?_
                      refine a_on 17 rfl (by kernel_rfl) 142 rfl (congrArg Value.bool (decide_eq_false h162)) (fun w_ h_ => o_move (v := v127) e138_16 ⟨rfl, rfl⟩) ?_
                      refine a_on 18 rfl (by kernel_rfl) 142 rfl (congrArg Value.bool (decide_eq_false h162)) (fun w_ h_ => o_move (v := (.int .i64 (k2 : Int))) e138_17 ⟨rfl, rfl⟩) ?_
                      obtain ⟨b167, o168, hc169, ho170⟩ := ix_exF tmC_len Try.underlying185 ti187 ho129.sl (by omega) hx159
                      refine a_on 19 rfl (by kernel_rfl) 142 rfl (congrArg Value.bool (decide_eq_false h162)) (fun w_ h_ => ho170 rfl rfl ⟨rfl, rfl⟩) ?_
                      refine a_on 20 rfl (by kernel_rfl) 142 rfl (congrArg Value.bool (decide_eq_false h162)) (fun w_ h_ => o_fieldAddr (k := o168 + 1) (fun _ => by kernel_rfl) rfl ⟨rfl, rfl⟩) ?_
                      refine a_on 21 rfl (by kernel_rfl) 142 rfl (congrArg Value.bool (decide_eq_false h162)) (fun w_ h_ => o_load1 (v := (.int .i64 x158.2)) Try.underlying3 rfl rfl h_ (seg_sub 0 rfl) (CellsAt.field (k := 1) (ds := [(.int .i64 x158.2)]) hc169 rfl) ⟨rfl, rfl⟩) ?_
                      have hH171 : Has E { w140 with drawn := w140.drawn + 1 } [s128, s121] := ((hH148.front 1 rfl).front 1 rfl).first 2 rfl
                      refine a_done (by kernel_rfl) hH171 ?_
                      refine r_on 22 rfl (by kernel_rfl) 142 rfl (congrArg Value.bool (decide_eq_false h162)) (o_neq (a := x152.2) (b := x158.2) rfl rfl ?_)
                      refine r_op 23 rfl (by kernel_rfl) (o_pick_f (u := (.bool (decide (x152.2 ≠ x158.2)))) ((rfl : _ = _).trans (congrArg Value.bool (decide_eq_false h162))) rfl ?_)
                      refine Rest.done (by kernel_rfl) ?_
                      refine t_norm (hK147 _ _ ?_)
                      refine c_cond rfl (fun h172 => ?_) (fun h172 => ?_)
                      · -- x152.2 ≠ x158.2
                        exact absurd (by rw [hrel.look2 (show (edgesS v.keys)[k2]? = some _ from hx153) (show (edgesR H L)[k2]? = some _ from hx159)]) h172
                      · -- not: x152.2 ≠ x158.2
                        refine wp_skip ?_
                        refine b_norm ?_
                        refine t_norm (hK146 _ _ ?_)
                        refine c_region ?_
                        refine s_op (o_move (v := (.int .i64 (k2 : Int))) e138_17 ?_)
                        refine s_op (o_add (a := (k2 : Int)) (b := 1) rfl rfl (w64 (by omega) (by omega)) ?_)
                        refine s_op (o_assign (v := (.int .i64 ((k2 : Int) + 1))) rfl ?_)
                        refine s_nil ?_
                        refine t_norm ⟨(edgesS v.keys).length - (k2 + 1), _, rfl, ?_, ?_⟩
                        · omega
                        · exact ⟨(k2 + 1), rfl, hH148, (by omega), e138_0, e138_1, e138_2, e138_3, e138_5, e138_9, e138_10, e138_11, e138_12, e138_13, e138_14, e138_15, e138_16, rfl, e138_28, e138_32, e138_115, e138_124⟩
                  · -- not: (k2 : Int) < (((edgesS v.keys).length : Nat) : Int)
                    refine wp_exit ?_
                    refine t_exit (t_exit (x_in (?_)))
                    refine t_norm (hK136 _ _ ?_)
                    refine wp_seq_k fun K173 hK173 => ?_
                    refine c_region ?_
                    refine s_op (o_assign (v := (.bool true)) rfl ?_)
                    refine s_nil ?_
                    refine t_norm (hK173 _ _ ?_)
                    refine wp_ret ?_
                    refine c_ret1 Try.results47  (v := (.bool true)) rfl ?_
                    have hH174 : Has E w140 [R] := (hH141.front 8 rfl).first 1 rfl
                    exact ⟨rfl, hH174⟩
        · -- not: (waitsS v.keys owner).isSome
          have hno_ : waitsS v.keys owner = none := by simpa using h82
          refine a_off (b' := false) 7 rfl (by kernel_rfl) 74 rfl (congrArg Value.bool h82) rfl ?_
          refine a_off (b' := false) 8 rfl (by kernel_rfl) 74 rfl (congrArg Value.bool h82) rfl ?_
          refine a_off (b' := false) 9 rfl (by kernel_rfl) 74 rfl (congrArg Value.bool h82) rfl ?_
          refine a_off (b' := false) 10 rfl (by kernel_rfl) 74 rfl (congrArg Value.bool h82) rfl ?_
          refine a_off (b' := false) 11 rfl (by kernel_rfl) 74 rfl (congrArg Value.bool h82) rfl ?_
          refine a_off (b' := false) 12 rfl (by kernel_rfl) 74 rfl (congrArg Value.bool h82) rfl ?_
          refine a_off (b' := false) 13 rfl (by kernel_rfl) 74 rfl (congrArg Value.bool h82) rfl ?_
          refine a_off (b' := false) 14 rfl (by kernel_rfl) 74 rfl (congrArg Value.bool h82) rfl ?_
          have hH175 : Has E { w76 with drawn := w76.drawn + 1 } [[Hp.one b68 (.cells #[(S (((waitsS v.keys owner).map (·.key)).getD [])), (.bool (((waitsS v.keys owner).map (·.wr)).getD false))] 74 (0, 0))], [Hp.one b5 (.cells #[v_H, v_L] 86 (0, 0))], R] := (((hH79.front 4 rfl).front 4 rfl).front 2 rfl).first 3 rfl
          refine a_done (by kernel_rfl) hH175 ?_
          refine r_off (b' := false) 15 rfl (by kernel_rfl) 74 rfl (congrArg Value.bool h82) rfl ?_
          refine r_off (b' := false) 16 rfl (by kernel_rfl) 74 rfl (congrArg Value.bool h82) rfl ?_
          refine Rest.phaseA (fun w_ => Has E w_ []) 17 25 8 rfl (by decide) (by kernel_rfl) ?_
          refine a_offu 17 rfl (by kernel_rfl) 84 rfl rfl ?_
          refine a_offu 18 rfl (by kernel_rfl) 84 rfl rfl ?_
          refine a_offu 19 rfl (by kernel_rfl) 84 rfl rfl ?_
          refine a_offu 20 rfl (by kernel_rfl) 84 rfl rfl ?_
          refine a_offu 21 rfl (by kernel_rfl) 84 rfl rfl ?_
          refine a_offu 22 rfl (by kernel_rfl) 84 rfl rfl ?_
          refine a_offu 23 rfl (by kernel_rfl) 84 rfl rfl ?_
          refine a_offu 24 rfl (by kernel_rfl) 84 rfl rfl ?_
          have hH176 : Has E { w76 with drawn := w76.drawn + 1 } [] := hH79.first 0 rfl
          refine a_done (by kernel_rfl) hH176 ?_
          refine r_offu 25 rfl (by kernel_rfl) 84 rfl rfl ?_
          refine r_off (b' := false) 26 rfl (by kernel_rfl) 74 rfl (congrArg Value.bool h82) rfl ?_
          refine r_on 27 rfl (by kernel_rfl) 72 rfl (congrArg Value.bool h81) (o_pick_f (u := (.bool false)) ((rfl : _ = _).trans (congrArg Value.bool h82)) rfl ?_)
          refine r_op 28 rfl (by kernel_rfl) (o_pick_f (u := (.bool false)) ((rfl : _ = _).trans (congrArg Value.bool h81)) rfl ?_)
          refine r_op 29 rfl (by kernel_rfl) (o_move (v := (.bool false)) rfl ?_)
          refine r_on 30 rfl (by kernel_rfl) 97 rfl rfl (o_move (v := (.bool ((waitsS v.keys owner).isSome))) rfl ?_)
          refine r_on 31 rfl (by kernel_rfl) 97 rfl rfl (o_not (b := false) ((rfl : _ = _).trans (congrArg Value.bool h82)) ?_)
          refine r_on 32 rfl (by kernel_rfl) 97 rfl rfl (o_move (v := (.bool true)) rfl ?_)
          refine Rest.phaseA (fun w_ => Has E w_ [[Hp.one b68 (.cells #[(S (((waitsS v.keys owner).map (·.key)).getD [])), (.bool (((waitsS v.keys owner).map (·.wr)).getD false))] 74 (0, 0))]]) 33 35 2 rfl (by decide) (by kernel_rfl) ?_
          refine a_on 33 rfl (by kernel_rfl) 100 rfl rfl (fun w_ h_ => o_loadN (cs := [(S (((waitsS v.keys owner).map (·.key)).getD [])), (.bool (((waitsS v.keys owner).map (·.wr)).getD false))]) Try.underlying74 rfl ti74 rfl h_ (seg_sub 0 rfl) (CellsAt.one rfl) ⟨rfl, rfl⟩) ?_
          refine a_on 34 rfl (by kernel_rfl) 100 rfl rfl (fun w_ h_ => o_sight (v := (.agg #[(S ([] : List UInt8)), (.bool false)])) (fun _ => by kernel_rfl) ⟨rfl, rfl⟩) ?_
          have hH177 : Has E { w76 with drawn := w76.drawn + 1 } [[Hp.one b68 (.cells #[(S (((waitsS v.keys owner).map (·.key)).getD [])), (.bool (((waitsS v.keys owner).map (·.wr)).getD false))] 74 (0, 0))]] := hH79.first 1 rfl
          refine a_done (by kernel_rfl) hH177 ?_
          refine r_on 35 rfl (by kernel_rfl) 100 rfl rfl (o_neq74 (((waitsS v.keys owner).map (·.key)).getD []) (((waitsS v.keys owner).map (·.wr)).getD false) ([] : List UInt8) false rfl rfl ?_)
          refine r_on 36 rfl (by kernel_rfl) 97 rfl rfl (o_pick_t (u := (.bool (!(eqv74 (((waitsS v.keys owner).map (·.key)).getD []) (((waitsS v.keys owner).map (·.wr)).getD false) ([] : List UInt8) false)))) rfl rfl ?_)
          refine r_op 37 rfl (by kernel_rfl) (o_pick_f (u := (.bool (!(eqv74 (((waitsS v.keys owner).map (·.key)).getD []) (((waitsS v.keys owner).map (·.wr)).getD false) ([] : List UInt8) false)))) rfl rfl ?_)
          refine r_op 38 rfl (by kernel_rfl) (o_move (v := (.bool (!(eqv74 (((waitsS v.keys owner).map (·.key)).getD []) (((waitsS v.keys owner).map (·.wr)).getD false) ([] : List UInt8) false)))) rfl ?_)
          refine Rest.phaseA (fun w_ => Has E w_ [[Hp.one b5 (.cells #[v_H, v_L] 86 (0, 0))]]) 39 44 5 rfl (by decide) (by kernel_rfl) ?_
          rcases Bool.eq_false_or_eq_true (!(eqv74 (((waitsS v.keys owner).map (·.key)).getD []) (((waitsS v.keys owner).map (·.wr)).getD false) ([] : List UInt8) false)) with h178 | h178
          · -- !(eqv74 (((waitsS v.keys owner).map (·.key)).getD []) (((waitsS v.keys owner).map (·.wr)).getD false) ([] : List UInt8) false)
            exact absurd h178 (by rw [hno_, show eqv74 ((Option.map (·.key) (none : Option Plc)).getD []) ((Option.map (·.wr) (none : Option Plc)).getD false) [] false = true from (eqv74_iff _ _ _ _).2 ⟨rfl, rfl⟩]; decide)
          · -- not: !(eqv74 (((waitsS v.keys owner).map (·.key)).getD []) (((waitsS v.keys owner).map (·.wr)).getD false) ([] : List UInt8) false)
            refine a_on 39 rfl (by kernel_rfl) 106 rfl (congrArg Value.bool h178) (fun w_ h_ => o_move (v := (.pointer (some ⟨tb, 0, none⟩))) e29_0 ⟨rfl, rfl⟩) ?_
            refine a_on 40 rfl (by kernel_rfl) 106 rfl (congrArg Value.bool h178) (fun w_ h_ => o_move (v := (S key)) e29_3 ⟨rfl, rfl⟩) ?_
            refine a_on 42 rfl (by kernel_rfl) 106 rfl (congrArg Value.bool h178) (fun w_ h_ => o_loadN (cs := [v_H, v_L]) Try.underlying86 rfl ti86 e29_5 h_ (seg_sub 0 rfl) (CellsAt.one rfl) ⟨rfl, rfl⟩) ?_
            refine a_on 43 rfl (by kernel_rfl) 106 rfl (congrArg Value.bool h178) (fun w_ h_ => o_move (v := (S key)) e29_3 ⟨rfl, rfl⟩) ?_
            have hH179 : Has E { w76 with drawn := w76.drawn + 1 } [[Hp.one b5 (.cells #[v_H, v_L] 86 (0, 0))]] := (hH79.front 3 rfl).first 1 rfl
            refine a_won 41 rfl (by kernel_rfl) hH179 106 rfl (congrArg Value.bool h178) (o_callf (vs := #[(.pointer (some ⟨tb, 0, none⟩)), (S key)]) ca48 rfl (args2 rfl rfl) (line_c (v := v) (key := key) hH79.all ((TbRd.mk hc3 f2).mono (seg_sub 4 rfl)) (hb.sz (by omega))) ?_)
            rintro _ w185 ⟨v180, s181, rfl, ho182, hX183⟩
            refine ⟨_, rfl, ?_⟩
            have hH184 : Has E w185 [s181, [Hp.one b68 (.cells #[(S (((waitsS v.keys owner).map (·.key)).getD [])), (.bool (((waitsS v.keys owner).map (·.wr)).getD false))] 74 (0, 0))], s19, s12, [Hp.one b5 (.cells #[v_H, v_L] 86 (0, 0))], R] := hX183.of_all1
            have hle186 : (linS v.keys key).length ≤ 1000 := linS_le (hb.sz (by omega)) _
            have hH187 : Has E w185 [[Hp.one b5 (.cells #[v_H, v_L] 86 (0, 0))]] := (hH184.front 4 rfl).first 1 rfl
            refine a_done (by kernel_rfl) hH187 ?_
            refine r_on 44 rfl (by kernel_rfl) 106 rfl (congrArg Value.bool h178) (o_callf (vs := #[(.agg #[v_H, v_L]), (S key)]) ca102 rfl (args2 rfl rfl) (rof_c (H := H) (L := L) (key := key) hH184.all (h_H.mono (seg_sub 5 rfl)) (h_L.mono (seg_sub 5 rfl)) (by first | omega | (simp only []; omega) | (simp; done) | (simp; omega))) ?_)
            rintro _ w193 ⟨v188, s189, rfl, ho190, hX191⟩
            refine ⟨_, rfl, ?_⟩
            have hH192 : Has E w193 [s189, s181, [Hp.one b68 (.cells #[(S (((waitsS v.keys owner).map (·.key)).getD [])), (.bool (((waitsS v.keys owner).map (·.wr)).getD false))] 74 (0, 0))], s19, s12, [Hp.one b5 (.cells #[v_H, v_L] 86 (0, 0))], R] := hX191.of_all1
            refine r_on 45 rfl (by kernel_rfl) 106 rfl (congrArg Value.bool h178) (o_callf (vs := #[v180, v188]) ca49 rfl (args2 rfl rfl) (same_c hH192.all (a := (linS v.keys key)) (b := (ofR L key)) (ho182.sl.mono (seg_sub 1 rfl)) (ho190.sl.mono (seg_sub 0 rfl))) ?_)
            rintro _ w196 ⟨rfl, hX194⟩
            refine ⟨_, rfl, ?_⟩
            have hH195 := hX194.of_all
            refine r_on 46 rfl (by kernel_rfl) 106 rfl (congrArg Value.bool h178) (o_not2 (b := decide ((linS v.keys key) = (ofR L key))) (b' := decide (¬ ((linS v.keys key) = (ofR L key)))) rfl not_dec ?_)
            refine r_op 47 rfl (by kernel_rfl) (o_pick_f (u := (.bool (decide (¬ ((linS v.keys key) = (ofR L key)))))) ((rfl : _ = _).trans (congrArg Value.bool h178)) rfl ?_)
            refine Rest.done (by kernel_rfl) ?_
            refine t_norm (hK78 _ _ ?_)
            refine c_cond rfl (fun h197 => ?_) (fun h197 => ?_)
            · -- ¬ ((linS v.keys key) = (ofR L key))
              exact absurd (hrel.of key) h197
            · -- not: ¬ ((linS v.keys key) = (ofR L key))
              refine wp_skip ?_
              refine t_norm (hK77 _ _ ?_)
              refine wp_seq_k fun K198 hK198 => ?_
              refine Rest.region mixed (by kernel_rfl) ?_
              have hH199 : Has E { w196 with drawn := w196.drawn + 1 } [s189, s181, [Hp.one b68 (.cells #[(S (((waitsS v.keys owner).map (·.key)).getD [])), (.bool (((waitsS v.keys owner).map (·.wr)).getD false))] 74 (0, 0))], s19, s12, [Hp.one b5 (.cells #[v_H, v_L] 86 (0, 0))], R] := Has0.drew hH195 _
              refine Rest.phaseA (fun w_ => Has E w_ [[Hp.one b5 (.cells #[v_H, v_L] 86 (0, 0))]]) 0 3 3 rfl (by decide) (by kernel_rfl) ?_
              refine a_op 0 rfl (by kernel_rfl) (fun w_ h_ => o_move (v := (.pointer (some ⟨tb, 0, none⟩))) e29_0 ⟨rfl, rfl⟩) ?_
              refine a_op 2 rfl (by kernel_rfl) (fun w_ h_ => o_loadN (cs := [v_H, v_L]) Try.underlying86 rfl ti86 e29_5 h_ (seg_sub 0 rfl) (CellsAt.one rfl) ⟨rfl, rfl⟩) ?_
              have hH200 : Has E { w196 with drawn := w196.drawn + 1 } [[Hp.one b5 (.cells #[v_H, v_L] 86 (0, 0))]] := (hH199.front 5 rfl).first 1 rfl
              refine a_w 1 rfl (by kernel_rfl) hH200 (o_callf (vs := #[(.pointer (some ⟨tb, 0, none⟩))]) ca45 rfl (args1 rfl) (edges_c (v := v) hH199.all ((TbRd.mk hc3 f2).mono (seg_sub 6 rfl)) (hb.hkl) (hb.hkn (by omega)) (hb.sz (by omega))) ?_)
              rintro _ w206 ⟨v201, s202, rfl, ho203, hX204⟩
              refine ⟨_, rfl, ?_⟩
              have hH205 : Has E w206 [s202, s189, s181, [Hp.one b68 (.cells #[(S (((waitsS v.keys owner).map (·.key)).getD [])), (.bool (((waitsS v.keys owner).map (·.wr)).getD false))] 74 (0, 0))], s19, s12, [Hp.one b5 (.cells #[v_H, v_L] 86 (0, 0))], R] := hX204.of_all1
              have hH207 : Has E w206 [[Hp.one b5 (.cells #[v_H, v_L] 86 (0, 0))]] := (hH205.front 6 rfl).first 1 rfl
              refine a_done (by kernel_rfl) hH207 ?_
              refine r_op 3 rfl (by kernel_rfl) (o_callf (vs := #[(.agg #[v_H, v_L])]) ca103 rfl (args1 rfl) (redges_c (H := H) (L := L) hH205.all (h_H.mono (seg_sub 7 rfl)) (h_L.mono (seg_sub 7 rfl)) (by first | omega | (simp only []; omega) | (simp; done) | (simp; omega))) ?_)
              rintro _ w213 ⟨v208, s209, rfl, ho210, hX211⟩
              refine ⟨_, rfl, ?_⟩
              have hH212 : Has E w213 [s209, s202, s189, s181, [Hp.one b68 (.cells #[(S (((waitsS v.keys owner).map (·.key)).getD [])), (.bool (((waitsS v.keys owner).map (·.wr)).getD false))] 74 (0, 0))], s19, s12, [Hp.one b5 (.cells #[v_H, v_L] 86 (0, 0))], R] := hX211.of_all1
              refine r_op 4 rfl (by kernel_rfl) (o_assign (v := v201) rfl ?_)
              refine r_op 5 rfl (by kernel_rfl) (o_assign (v := v208) rfl ?_)
              refine Rest.done (by kernel_rfl) ?_
              refine t_norm (hK198 _ _ ?_)
              refine wp_seq_k fun K214 hK214 => ?_
              refine wp_seq_k fun K215 hK215 => ?_
              refine c_region ?_
              refine s_op (o_move (v := v201) rfl ?_)
              refine s_op (o_lenS Try.underlying82 rfl ho203.sl ?_)
              refine s_op (o_move (v := v208) rfl ?_)
              refine s_op (o_lenS Try.underlying185 rfl ho210.sl ?_)
              refine s_op (o_neq (a := (((edgesS v.keys).length : Nat) : Int)) (b := (((edgesR H L).length : Nat) : Int)) rfl rfl ?_)
              refine s_nil ?_
              refine t_norm (hK215 _ _ ?_)
              refine c_cond rfl (fun h216 => ?_) (fun h216 => ?_)
              · -- (((edgesS v.keys).length : Nat) : Int) ≠ (((edgesR H L).length : Nat) : Int)
                exact absurd (by rw [hrel.edges]) h216
              · -- not: (((edgesS v.keys).length : Nat) : Int) ≠ (((edgesR H L).length : Nat) : Int)
                refine wp_skip ?_
                refine t_norm (hK214 _ _ ?_)
                refine wp_seq_k fun K217 hK217 => ?_
                refine wp_seq_k fun K218 hK218 => ?_
                refine c_region ?_
                refine s_op (o_assign (v := (.int .i64 0)) rfl ?_)
                refine s_nil ?_
                refine t_norm (hK218 _ _ ?_)
                refine wp_block ?_
                let I220 : Nat → (Nat → Value) → World → Prop := fun n__ r__ w__ => ∃ (k2 : Nat), n__ = (edgesS v.keys).length - k2 ∧ Has E w__ [s209, s202, s189, s181, [Hp.one b68 (.cells #[(S (((waitsS v.keys owner).map (·.key)).getD [])), (.bool (((waitsS v.keys owner).map (·.wr)).getD false))] 74 (0, 0))], s19, s12, [Hp.one b5 (.cells #[v_H, v_L] 86 (0, 0))], R] ∧ (k2 ≤ (edgesS v.keys).length) ∧ r__ 0 = (.pointer (some ⟨tb, 0, none⟩)) ∧ r__ 1 = (.agg #[v_H, v_L]) ∧ r__ 2 = (.int .i64 owner) ∧ r__ 3 = (S key) ∧ r__ 5 = (.pointer (some ⟨b5, 0, none⟩)) ∧ r__ 9 = v11 ∧ r__ 10 = v18 ∧ r__ 11 = (.int .i64 (k : Int)) ∧ r__ 12 = (.pointer (some ⟨b68, 0, none⟩)) ∧ r__ 13 = (.bool ((waitsS v.keys owner).isSome)) ∧ r__ 14 = (.int .i64 (idxG (ownIs owner) L)) ∧ r__ 15 = v201 ∧ r__ 16 = v208 ∧ r__ 17 = (.int .i64 (k2 : Int)) ∧ r__ 28 = (.bool (decide ((((holdsC v.keys owner).length : Nat) : Int) ≠ (((holdsR H owner).length : Nat) : Int)))) ∧ r__ 32 = (.bool (decide ((k : Int) < (((holdsC v.keys owner).length : Nat) : Int)))) ∧ r__ 115 = (.bool (decide (¬ ((linS v.keys key) = (ofR L key))))) ∧ r__ 124 = (.bool (decide ((((edgesS v.keys).length : Nat) : Int) ≠ (((edgesR H L).length : Nat) : Int))))
                refine c_loop I220 _ ⟨0, rfl, hH212, Nat.zero_le _, e29_0, e29_1, e29_2, e29_3, e29_5, e29_9, e29_10, e29_11, rfl, rfl, rfl, rfl, rfl, rfl, e29_28, rfl, rfl, rfl⟩ ?_
                rintro n_ r223 w221 ⟨k2, rfl, hH222, hk2, e219_0, e219_1, e219_2, e219_3, e219_5, e219_9, e219_10, e219_11, e219_12, e219_13, e219_14, e219_15, e219_16, e219_17, e219_28, e219_32, e219_115, e219_124⟩
                have hb1_ := (ho203).sl.le
                have hb2_ := (ho210).sl.le
                refine wp_seq_k fun K224 hK224 => ?_
                refine wp_seq_k fun K225 hK225 => ?_
                refine c_region ?_
                refine s_op (o_move (v := (.int .i64 (k2 : Int))) e219_17 ?_)
                refine s_op (o_move (v := v201) e219_15 ?_)
                refine s_op (o_lenS Try.underlying82 rfl ho203.sl ?_)
                refine s_op (o_lss (a := (k2 : Int)) (b := (((edgesS v.keys).length : Nat) : Int)) rfl rfl ?_)
                refine s_nil ?_
                refine t_norm (hK225 _ _ ?_)
                refine c_cond rfl (fun h226 => ?_) (fun h226 => ?_)
                · -- (k2 : Int) < (((edgesS v.keys).length : Nat) : Int)
                  refine wp_skip ?_
                  refine t_norm (hK224 _ _ ?_)
                  refine wp_seq_k fun K227 hK227 => ?_
                  refine wp_block ?_
                  refine wp_seq_k fun K228 hK228 => ?_
                  refine Rest.region mixed (by kernel_rfl) ?_
                  have hH229 : Has E { w221 with drawn := w221.drawn + 1 } [s209, s202, s189, s181, [Hp.one b68 (.cells #[(S (((waitsS v.keys owner).map (·.key)).getD [])), (.bool (((waitsS v.keys owner).map (·.wr)).getD false))] 74 (0, 0))], s19, s12, [Hp.one b5 (.cells #[v_H, v_L] 86 (0, 0))], R] := Has0.drew hH222 _
                  refine Rest.phaseA (fun w_ => Has E w_ [s209, s202]) 0 10 10 rfl (by decide) (by kernel_rfl) ?_
                  refine a_op 0 rfl (by kernel_rfl) (fun w_ h_ => o_move (v := v201) e219_15 ⟨rfl, rfl⟩) ?_
                  refine a_op 1 rfl (by kernel_rfl) (fun w_ h_ => o_move (v := (.int .i64 (k2 : Int))) e219_17 ⟨rfl, rfl⟩) ?_
                  obtain ⟨x233, hx234⟩ : ∃ x_, (edgesS v.keys)[((k2 : Int)).toNat]? = some x_ := get_some (by omega)
                  obtain ⟨b230, o231, hc232, ho235⟩ := ix_exF tmC_len Try.underlying82 ti95 ho203.sl (by omega) hx234
                  refine a_op 2 rfl (by kernel_rfl) (fun w_ h_ => ho235 rfl rfl ⟨rfl, rfl⟩) ?_
                  refine a_op 3 rfl (by kernel_rfl) (fun w_ h_ => o_fieldAddr (k := o231) (fun _ => by kernel_rfl) rfl ⟨rfl, rfl⟩) ?_
                  refine a_op 4 rfl (by kernel_rfl) (fun w_ h_ => o_load1 (v := (.int .i64 x233.1)) Try.underlying3 rfl rfl h_ (seg_sub 1 rfl) (CellsAt.field (k := 0) (ds := [(.int .i64 x233.1)]) hc232 rfl) ⟨rfl, rfl⟩) ?_
                  refine a_op 5 rfl (by kernel_rfl) (fun w_ h_ => o_move (v := v208) e219_16 ⟨rfl, rfl⟩) ?_
                  refine a_op 6 rfl (by kernel_rfl) (fun w_ h_ => o_move (v := (.int .i64 (k2 : Int))) e219_17 ⟨rfl, rfl⟩) ?_
                  obtain ⟨x239, hx240⟩ : ∃ x_, (edgesR H L)[((k2 : Int)).toNat]? = some x_ := get_some (by omega)
                  obtain ⟨b236, o237, hc238, ho241⟩ := ix_exF tmC_len Try.underlying185 ti187 ho210.sl (by omega) hx240
                  refine a_op 7 rfl (by kernel_rfl) (fun w_ h_ => ho241 rfl rfl ⟨rfl, rfl⟩) ?_
                  refine a_op 8 rfl (by kernel_rfl) (fun w_ h_ => o_fieldAddr (k := o237) (fun _ => by kernel_rfl) rfl ⟨rfl, rfl⟩) ?_
                  refine a_op 9 rfl (by kernel_rfl) (fun w_ h_ => o_load1 (v := (.int .i64 x239.1)) Try.underlying3 rfl rfl h_ (seg_sub 0 rfl) (CellsAt.field (k := 0) (ds := [(.int .i64 x239.1)]) hc238 rfl) ⟨rfl, rfl⟩) ?_
                  have hH242 : Has E { w221 with drawn := w221.drawn + 1 } [s209, s202] := ((hH229.front 1 rfl).front 1 rfl).first 2 rfl
                  refine a_done (by kernel_rfl) hH242 ?_
                  refine r_op 10 rfl (by kernel_rfl) (o_neq (a := x233.1) (b := x239.1) rfl rfl ?_)
                  refine r_op 11 rfl (by kernel_rfl) (o_move (v := (.bool (decide (x233.1 ≠ x239.1)))) rfl ?_)
                  refine Rest.phaseA (fun w_ => Has E w_ [s209, s202]) 12 22 10 rfl (by decide) (by kernel_rfl) ?_
                  by_cases h243 : x233.1 ≠ x239.1
                  · -- x233.1 ≠ x239.1
                    exact absurd (by rw [hrel.look2 (show (edgesS v.keys)[k2]? = some _ from hx234) (show (edgesR H L)[k2]? = some _ from hx240)]) h243
                  · -- not: x233.1 ≠ x239.1
                    refine a_on 12 rfl (by kernel_rfl) 142 rfl (congrArg Value.bool (decide_eq_false h243)) (fun w_ h_ => o_move (v := v201) e219_15 ⟨rfl, rfl⟩) ?_
                    refine a_on 13 rfl (by kernel_rfl) 142 rfl (congrArg Value.bool (decide_eq_false h243)) (fun w_ h_ => o_move (v := (.int .i64 (k2 : Int))) e219_17 ⟨rfl, rfl⟩) ?_
                    obtain ⟨b244, o245, hc246, ho247⟩ := ix_exF tmC_len Try.underlying82 ti95 ho203.sl (by omega) hx234
                    refine a_on 14 rfl (by kernel_rfl) 142 rfl (congrArg Value.bool (decide_eq_false h243)) (fun w_ h_ => ho247 rfl rfl ⟨rfl, rfl⟩) ?_
                    refine a_on 15 rfl (by kernel_rfl) 142 rfl (congrArg Value.bool (decide_eq_false h243)) (fun w_ h_ => o_fieldAddr (k := o245 + 1) (fun _ => by kernel_rfl) rfl ⟨rfl, rfl⟩) ?_
                    refine a_on 16 rfl (by kernel_rfl) 142 rfl (congrArg Value.bool (decide_eq_false h243)) (fun w_ h_ => o_load1 (v := (.int .i64 x233.2)) Try.underlying3 rfl rfl h_ (seg_sub 1 rfl) (CellsAt.field (k := 1) (ds := [(.int .i64 x233.2)]) hc246 rfl) ⟨rfl, rfl⟩) ?_
                    refine a_on 17 rfl (by kernel_rfl) 142 rfl (congrArg Value.bool (decide_eq_false h243)) (fun w_ h_ => o_move (v := v208) e219_16 ⟨rfl, rfl⟩) ?_
                    refine a_on 18 rfl (by kernel_rfl) 142 rfl (congrArg Value.bool (decide_eq_false h243)) (fun w_ h_ => o_move (v := (.int .i64 (k2 : Int))) e219_17 ⟨rfl, rfl⟩) ?_
                    obtain ⟨b248, o249, hc250, ho251⟩ := ix_exF tmC_len Try.underlying185 ti187 ho210.sl (by omega) hx240
                    refine a_on 19 rfl (by kernel_rfl) 142 rfl (congrArg Value.bool (decide_eq_false h243)) (fun w_ h_ => ho251 rfl rfl ⟨rfl, rfl⟩) ?_
                    refine a_on 20 rfl (by kernel_rfl) 142 rfl (congrArg Value.bool (decide_eq_false h243)) (fun w_ h_ => o_fieldAddr (k := o249 + 1) (fun _ => by kernel_rfl) rfl ⟨rfl, rfl⟩) ?_
                    refine a_on 21 rfl (by kernel_rfl) 142 rfl (congrArg Value.bool (decide_eq_false h243)) (fun w_ h_ => o_load1 (v := (.int .i64 x239.2)) Try.underlying3 rfl rfl h_ (seg_sub 0 rfl) (CellsAt.field (k := 1) (ds := [(.int .i64 x239.2)]) hc250 rfl) ⟨rfl, rfl⟩) ?_
                    have hH252 : Has E { w221 with drawn := w221.drawn + 1 } [s209, s202] := ((hH229.front 1 rfl).front 1 rfl).first 2 rfl
                    refine a_done (by kernel_rfl) hH252 ?_
                    refine r_on 22 rfl (by kernel_rfl) 142 rfl (congrArg Value.bool (decide_eq_false h243)) (o_neq (a := x233.2) (b := x239.2) rfl rfl ?_)
                    refine r_op 23 rfl (by kernel_rfl) (o_pick_f (u := (.bool (decide (x233.2 ≠ x239.2)))) ((rfl : _ = _).trans (congrArg Value.bool (decide_eq_false h243))) rfl ?_)
                    refine Rest.done (by kernel_rfl) ?_
                    refine t_norm (hK228 _ _ ?_)
                    refine c_cond rfl (fun h253 => ?_) (fun h253 => ?_)
                    · -- x233.2 ≠ x239.2
                      exact absurd (by rw [hrel.look2 (show (edgesS v.keys)[k2]? = some _ from hx234) (show (edgesR H L)[k2]? = some _ from hx240)]) h253
                    · -- not: x233.2 ≠ x239.2
                      refine wp_skip ?_
                      refine b_norm ?_
                      refine t_norm (hK227 _ _ ?_)
                      refine c_region ?_
                      refine s_op (o_move (v := (.int .i64 (k2 : Int))) e219_17 ?_)
                      refine s_op (o_add (a := (k2 : Int)) (b := 1) rfl rfl (w64 (by omega) (by omega)) ?_)
                      refine s_op (o_assign (v := (.int .i64 ((k2 : Int) + 1))) rfl ?_)
                      refine s_nil ?_
                      refine t_norm ⟨(edgesS v.keys).length - (k2 + 1), _, rfl, ?_, ?_⟩
                      · omega
                      · exact ⟨(k2 + 1), rfl, hH229, (by omega), e219_0, e219_1, e219_2, e219_3, e219_5, e219_9, e219_10, e219_11, e219_12, e219_13, e219_14, e219_15, e219_16, rfl, e219_28, e219_32, e219_115, e219_124⟩
                · -- not: (k2 : Int) < (((edgesS v.keys).length : Nat) : Int)
                  refine wp_exit ?_
                  refine t_exit (t_exit (x_in (?_)))
                  refine t_norm (hK217 _ _ ?_)
                  refine wp_seq_k fun K254 hK254 => ?_
                  refine c_region ?_
                  refine s_op (o_assign (v := (.bool true)) rfl ?_)
                  refine s_nil ?_
                  refine t_norm (hK254 _ _ ?_)
                  refine wp_ret ?_
                  refine c_ret1 Try.results47  (v := (.bool true)) rfl ?_
                  have hH255 : Has E w221 [R] := (hH222.front 8 rfl).first 1 rfl
                  exact ⟨rfl, hH255⟩
end Go.Q
namespace Go.Q
open Go.Proofs
set_option linter.unusedVariables false
set_option maxRecDepth 100000
attribute [local irreducible] wpList OK Code.wp
set_option maxHeartbeats 4000000 in
theorem does14_c {E w : World} {R : List Hp} {tb : Nat} {sg_tb : List Hp} {v : TabS} {v_H : Value} {s_H : List Hp} {H : List Plc} {v_L : Value} {s_L : List Hp} {L : List Plc} {a : LAct}  (hH : Has E w [sg_tb, s_H, s_L, R]) (h_tb : TbAt tb sg_tb v) (h_H : Own 183 3 v_H H.length (H.flatMap rcC) s_H) (h_L : Own 183 3 v_L L.length (L.flatMap rcC) s_L) (hla : LaOk R a) (hrel : Rel v.keys H L) (hb : LkB v.keys 59) (hsz : H.length + L.length ≤ 59) (hkey : a.key.length ≤ 100) (hmore : a.more.length ≤ 10) :
    Calls Try.prog 46 #[(.pointer (some ⟨tb, 0, none⟩)), (.agg #[v_H, v_L]), (.agg #[(.int .i64 a.kind), (.int .i64 a.own), (S a.key), (.bool a.wr), a.mv])] w fun e w' => ∃ (v1' : Value) (s2' : List Hp) (v4' : Value) (s5' : List Hp) (sg_tb' : List Hp), e = .returned (.tuple #[(.agg #[v1', v4']), (.bool true)]) ∧ (Own 183 3 v1' ((doR H L a).1).length (((doR H L a).1).flatMap rcC) s2') ∧ (Own 183 3 v4' ((doR H L a).2).length (((doR H L a).2).flatMap rcC) s5') ∧ (TbAt tb sg_tb' (⟨doT v.keys a⟩ : TabS)) ∧ Has E w' [s2', s5', sg_tb', R] := by
  have hs := hrel.ok
  have hd := hrel.nd
  obtain ⟨x1, s2, rfl, f3⟩ := h_tb
  have hH4 : Has E w [[Hp.one tb (.cells #[(.map (some x1))] 164 (0, 0))], s2, s_H, s_L, R] := Has.op2 hH
  refine c_enter (args := [(.pointer (some ⟨tb, 0, none⟩)), (.agg #[v_H, v_L]), (.agg #[(.int .i64 a.kind), (.int .i64 a.own), (S a.key), (.bool a.wr), a.mv])]) Try.func46 rfl Try.ntmps46 (by simp) ?_
  refine wp_seq_k fun K5 hK5 => ?_
  refine c_region ?_
  refine s_op (o_box (cs := #[v_H, v_L]) rfl rfl hH4 fun b6 w7 hH8 => ?_)
  refine s_op (o_box (cs := #[(.int .i64 a.kind), (.int .i64 a.own), (S a.key), (.bool a.wr), a.mv]) rfl rfl hH8 fun b9 w10 hH11 => ?_)
  refine s_op (o_alloc (cs := #[(.slice none 0 0), (.slice none 0 0)]) ti86 rfl hH11 fun b12 w13 hH14 => ?_)
  refine s_op (o_assign (v := (.bool false)) rfl ?_)
  refine s_nil ?_
  refine t_norm (hK5 _ _ ?_)
  refine wp_seq_k fun K15 hK15 => ?_
  refine wp_seq_k fun K16 hK16 => ?_
  refine c_region ?_
  refine s_op (o_fieldAddr (k := 0) (fun _ => by kernel_rfl) rfl ?_)
  refine s_op (o_load1 (v := (.int .i64 a.kind)) Try.underlying3 rfl rfl hH14 (seg_sub 1 rfl) (CellsAt.one rfl) ?_)
  refine s_nil ?_
  refine t_norm (hK16 _ _ ?_)
  refine wp_block ?_
  refine wp_seq_k fun K17 hK17 => ?_
  refine c_region ?_
  refine s_op (o_eql (a := a.kind) (b := 0) rfl rfl ?_)
  refine s_op (o_assign (v := (.bool (decide (a.kind = 0)))) rfl ?_)
  refine s_nil ?_
  refine t_norm (hK17 _ _ ?_)
  refine c_cond rfl (fun h18 => ?_) (fun h18 => ?_)
  · -- a.kind = 0
    refine wp_seq_k fun K19 hK19 => ?_
    refine c_region ?_
    refine s_op (o_loadN (cs := [v_H, v_L]) Try.underlying86 rfl ti86 rfl hH14 (seg_sub 2 rfl) (CellsAt.one rfl) ?_)
    refine s_op (o_fieldAddr (k := 1) (fun _ => by kernel_rfl) rfl ?_)
    refine s_op (o_load1 (v := (.int .i64 a.own)) Try.underlying3 rfl rfl hH14 (seg_sub 1 rfl) (CellsAt.one rfl) ?_)
    refine s_op (o_fieldAddr (k := 2) (fun _ => by kernel_rfl) rfl ?_)
    refine s_op (o_load1 (v := (S a.key)) Try.underlying9 rfl rfl hH14 (seg_sub 1 rfl) (CellsAt.one rfl) ?_)
    refine s_op (o_fieldAddr (k := 3) (fun _ => by kernel_rfl) rfl ?_)
    refine s_op (o_load1 (v := (.bool a.wr)) Try.underlying4 rfl rfl hH14 (seg_sub 1 rfl) (CellsAt.one rfl) ?_)
    refine s_op (o_callf (vs := #[(.agg #[v_H, v_L]), (.int .i64 a.own), (S a.key), (.bool a.wr)]) ca98 rfl (args4 rfl rfl rfl rfl) (rask_c (H := H) (L := L) (owner := a.own) (key := a.key) (write := a.wr) ((hH14.front 6 rfl).front 6 rfl).all2 h_H h_L (by first | omega | (simp only []; omega) | (simp; done) | (simp; omega))) ?_)
    rintro _ w28 ⟨v20, s21, v23, s24, rfl, ho22, ho25, hX26⟩
    refine ⟨_, rfl, ?_⟩
    have hH27 : Has E w28 [s21, s24, [Hp.one b12 (.cells #[(.slice none 0 0), (.slice none 0 0)] 86 (0, 0))], [Hp.one b9 (.cells #[(.int .i64 a.kind), (.int .i64 a.own), (S a.key), (.bool a.wr), a.mv] 71 (0, 0))], [Hp.one b6 (.cells #[v_H, v_L] 86 (0, 0))], [Hp.one tb (.cells #[(.map (some x1))] 164 (0, 0))], s2, R] := hX26.of_all2
    refine s_op (o_move (v := (.tuple #[(.agg #[v20, v23]), (.int .i64 ((askR H L a.own a.key a.wr).2))])) rfl ?_)
    refine s_op (o_extract (v := (.agg #[v20, v23])) rfl rfl ?_)
    refine s_op (o_extract (v := (.int .i64 ((askR H L a.own a.key a.wr).2))) rfl rfl ?_)
    refine s_op (o_alloc (cs := #[(.slice none 0 0), (.slice none 0 0)]) ti86 rfl hH27 fun b29 w30 hH31 => ?_)
    refine s_eff (o_storeN (vs := [v20, v23]) (c' := #[v20, v23]) ti86 rfl rfl rfl rfl (by intro u hu; simp only [List.mem_cons, List.not_mem_nil, or_false] at hu; rcases hu with rfl | rfl <;> first | rfl | exact ho22.one | exact ho25.one) (by simp) (by kernel_rfl) (hH31.front 0 rfl) fun w32 hH33 => ?_)
    refine s_op (o_assign (v := (.int .i64 ((askR H L a.own a.key a.wr).2))) rfl ?_)
    refine s_nil ?_
    refine t_norm (hK19 _ _ ?_)
    refine wp_seq_k fun K34 hK34 => ?_
    refine Rest.region mixed (by kernel_rfl) ?_
    have hH35 : Has E { w32 with drawn := w32.drawn + 1 } [[Hp.one b29 (.cells #[v20, v23] 86 (0, 0))], s21, s24, [Hp.one b12 (.cells #[(.slice none 0 0), (.slice none 0 0)] 86 (0, 0))], [Hp.one b9 (.cells #[(.int .i64 a.kind), (.int .i64 a.own), (S a.key), (.bool a.wr), a.mv] 71 (0, 0))], [Hp.one b6 (.cells #[v_H, v_L] 86 (0, 0))], [Hp.one tb (.cells #[(.map (some x1))] 164 (0, 0))], s2, R] := Has0.drew hH33 _
    refine Rest.phaseA (fun w_ => Has E w_ [[Hp.one b29 (.cells #[v20, v23] 86 (0, 0))], [Hp.one b9 (.cells #[(.int .i64 a.kind), (.int .i64 a.own), (S a.key), (.bool a.wr), a.mv] 71 (0, 0))]]) 0 13 13 rfl (by decide) (by kernel_rfl) ?_
    refine a_op 0 rfl (by kernel_rfl) (fun w_ h_ => o_loadN (cs := [v20, v23]) Try.underlying86 rfl ti86 rfl h_ (seg_sub 0 rfl) (CellsAt.one rfl) ⟨rfl, rfl⟩) ?_
    refine a_op 1 rfl (by kernel_rfl) (fun w_ h_ => o_move (v := (.pointer (some ⟨tb, 0, none⟩))) rfl ⟨rfl, rfl⟩) ?_
    refine a_op 2 rfl (by kernel_rfl) (fun w_ h_ => o_fieldAddr (k := 1) (fun _ => by kernel_rfl) rfl ⟨rfl, rfl⟩) ?_
    refine a_op 3 rfl (by kernel_rfl) (fun w_ h_ => o_load1 (v := (.int .i64 a.own)) Try.underlying3 rfl rfl h_ (seg_sub 1 rfl) (CellsAt.one rfl) ⟨rfl, rfl⟩) ?_
    refine a_op 4 rfl (by kernel_rfl) (fun w_ h_ => o_fieldAddr (k := 2) (fun _ => by kernel_rfl) rfl ⟨rfl, rfl⟩) ?_
    refine a_op 5 rfl (by kernel_rfl) (fun w_ h_ => o_load1 (v := (S a.key)) Try.underlying9 rfl rfl h_ (seg_sub 1 rfl) (CellsAt.one rfl) ⟨rfl, rfl⟩) ?_
    refine a_op 6 rfl (by kernel_rfl) (fun w_ h_ => o_fieldAddr (k := 3) (fun _ => by kernel_rfl) rfl ⟨rfl, rfl⟩) ?_
    refine a_op 7 rfl (by kernel_rfl) (fun w_ h_ => o_load1 (v := (.bool a.wr)) Try.underlying4 rfl rfl h_ (seg_sub 1 rfl) (CellsAt.one rfl) ⟨rfl, rfl⟩) ?_
    refine a_op 8 rfl (by kernel_rfl) (fun w_ h_ => o_sight (v := (.agg #[(S a.key), (.bool a.wr)])) (fun _ => by kernel_rfl) ⟨rfl, rfl⟩) ?_
    refine a_op 10 rfl (by kernel_rfl) (fun w_ h_ => o_move (v := (.int .i64 ((askR H L a.own a.key a.wr).2))) rfl ⟨rfl, rfl⟩) ?_
    have hH36 : Has E { w32 with drawn := w32.drawn + 1 } [[Hp.one b29 (.cells #[v20, v23] 86 (0, 0))], [Hp.one b9 (.cells #[(.int .i64 a.kind), (.int .i64 a.own), (S a.key), (.bool a.wr), a.mv] 71 (0, 0))]] := ((hH35.front 4 rfl).front 1 rfl).first 2 rfl
    have hH37 : Has E { w32 with drawn := w32.drawn + 1 } [([Hp.one tb (.cells #[(.map (some x1))] 164 (0, 0))] ++ s2), [Hp.one b29 (.cells #[v20, v23] 86 (0, 0))], s21, s24, [Hp.one b12 (.cells #[(.slice none 0 0), (.slice none 0 0)] 86 (0, 0))], [Hp.one b9 (.cells #[(.int .i64 a.kind), (.int .i64 a.own), (S a.key), (.bool a.wr), a.mv] 71 (0, 0))], [Hp.one b6 (.cells #[v_H, v_L] 86 (0, 0))], R] := Has.cl2 ((hH35.front 7 rfl).front 7 rfl)
    have hd38 : TbAt tb ([Hp.one tb (.cells #[(.map (some x1))] 164 (0, 0))] ++ s2) v := TbAt.mk f3
    refine a_w 9 rfl (by kernel_rfl) hH36 (o_callf (vs := #[(.pointer (some ⟨tb, 0, none⟩)), (.int .i64 a.own), (.agg #[(S a.key), (.bool a.wr)])]) ca39 rfl (args3 rfl rfl rfl) (ask_c (v := v) (o := a.own) (k := a.key) (wr := a.wr) hH37.all1 hd38 (hb.hkl) (hb.hkn (by omega)) (hb.sz (by omega))) ?_)
    rintro _ w43 ⟨sg39, rfl, hd40, hX41⟩
    refine ⟨_, rfl, ?_⟩
    have hH42 : Has E w43 [sg39, [Hp.one b29 (.cells #[v20, v23] 86 (0, 0))], s21, s24, [Hp.one b12 (.cells #[(.slice none 0 0), (.slice none 0 0)] 86 (0, 0))], [Hp.one b9 (.cells #[(.int .i64 a.kind), (.int .i64 a.own), (S a.key), (.bool a.wr), a.mv] 71 (0, 0))], [Hp.one b6 (.cells #[v_H, v_L] 86 (0, 0))], R] := hX41.of_all1
    have hb44 := hb.ask (o := a.own) (k := a.key) (wr := a.wr) hkey
    have hs45 := hs.ask (o := a.own) (k := a.key) (wr := a.wr)
    have hd46 := ask_nodup (o := a.own) (k := a.key) (wr := a.wr) hd
    refine a_op 11 rfl (by kernel_rfl) (fun w_ h_ => o_eql (a := (askS v.keys a.own a.key a.wr).2) (b := (askR H L a.own a.key a.wr).2) rfl rfl ⟨rfl, rfl⟩) ?_
    have hH47 : Has E w43 [[Hp.one b29 (.cells #[v20, v23] 86 (0, 0))], [Hp.one b9 (.cells #[(.int .i64 a.kind), (.int .i64 a.own), (S a.key), (.bool a.wr), a.mv] 71 (0, 0))]] := ((hH42.front 5 rfl).front 2 rfl).first 2 rfl
    refine a_we 12 rfl (by kernel_rfl) hH47 (o_storeN (vs := [v20, v23]) (c' := #[v20, v23]) ti86 rfl rfl rfl rfl (by intro u hu; simp only [List.mem_cons, List.not_mem_nil, or_false] at hu; rcases hu with rfl | rfl <;> first | rfl | exact ho22.one | exact ho25.one) (by simp) (by kernel_rfl) (hH42.front 4 rfl) fun w48 hH49 => ?_)
    have hH50 : Has E w48 [[Hp.one b29 (.cells #[v20, v23] 86 (0, 0))], [Hp.one b9 (.cells #[(.int .i64 a.kind), (.int .i64 a.own), (S a.key), (.bool a.wr), a.mv] 71 (0, 0))]] := ((hH49.front 5 rfl).front 3 rfl).first 2 rfl
    refine a_done (by kernel_rfl) hH50 ?_
    refine r_op 13 rfl (by kernel_rfl) (o_assign (v := (.bool (decide ((askS v.keys a.own a.key a.wr).2 = (askR H L a.own a.key a.wr).2)))) rfl ?_)
    refine Rest.done (by kernel_rfl) ?_
    refine t_norm (hK34 _ _ ?_)
    refine wp_ret ?_
    refine b_ret (t_ret (c_retC2 Try.results46 rfl (run_loadVarN (cs := [v20, v23]) Try.underlying86 rfl ti86 hH49 (seg_sub 0 rfl) (CellsAt.one rfl)) (x := (.bool (decide ((askS v.keys a.own a.key a.wr).2 = (askR H L a.own a.key a.wr).2)))) rfl ?_))
    have q51 : (doR H L a).1 = ((askR H L a.own a.key a.wr).1.1) := by rw [doR_0 h18]
    have q52 : (doR H L a).2 = ((askR H L a.own a.key a.wr).1.2) := by rw [doR_0 h18]
    have q53 : decide ((askS v.keys a.own a.key a.wr).2 = (askR H L a.own a.key a.wr).2) = true := by exact decide_eq_true hrel.ask.1
    have q54 : (⟨doT v.keys a⟩ : TabS) = (⟨(askS v.keys a.own a.key a.wr).1⟩ : TabS) := by rw [doT_0 h18]
    have hH55 : Has E w48 [s21, s24, sg39, R] := ((((hH49.front 7 rfl).front 2 rfl).front 5 rfl).front 5 rfl).first 4 rfl
    exact ⟨_, _, _, _, _, by rw [q53], (by rw [q51]; exact ho22), (by rw [q52]; exact ho25), (by rw [q54]; exact hd40), hH55⟩
  · -- not: a.kind = 0
    refine wp_seq_k fun K56 hK56 => ?_
    refine c_region ?_
    refine s_op (o_eql (a := a.kind) (b := 1) rfl rfl ?_)
    refine s_op (o_assign (v := (.bool (decide (a.kind = 1)))) rfl ?_)
    refine s_nil ?_
    refine t_norm (hK56 _ _ ?_)
    refine c_cond rfl (fun h57 => ?_) (fun h57 => ?_)
    · -- a.kind = 1
      refine wp_seq_k fun K58 hK58 => ?_
      refine c_region ?_
      refine s_op (o_loadN (cs := [v_H, v_L]) Try.underlying86 rfl ti86 rfl hH14 (seg_sub 2 rfl) (CellsAt.one rfl) ?_)
      refine s_op (o_fieldAddr (k := 1) (fun _ => by kernel_rfl) rfl ?_)
      refine s_op (o_load1 (v := (.int .i64 a.own)) Try.underlying3 rfl rfl hH14 (seg_sub 1 rfl) (CellsAt.one rfl) ?_)
      refine s_op (o_buildSlice (ps := #[(0, (.int .i64 a.own))]) (cells := #[(.int .i64 a.own)]) Try.underlying54 ti3 (by decide) (parts1 rfl) (by kernel_rfl) hH14 fun b59 w60 hH61 => ?_)
      refine s_op (o_callf (vs := #[(.agg #[v_H, v_L]), (.slice (some ⟨b59, 0, none⟩) 1 1), (.bool false)]) ca99 rfl (args3 rfl rfl rfl) (rleave_c (H := H) (L := L) (ow := [a.own]) (all := false) hH61.all (h_H.sl.mono (seg_sub 6 rfl)) (h_L.sl.mono (seg_sub 7 rfl)) ((sl_lit (f := iV) (l := [a.own]) rfl rfl (by simp)).mono (seg_sub 0 rfl)) (by first | omega | (simp only []; omega) | (simp; done) | (simp; omega))) ?_)
      rintro _ w73 ⟨v62, s63, v65, s66, v68, s69, rfl, ho64, ho67, ho70, hX71⟩
      refine ⟨_, rfl, ?_⟩
      have hH72 : Has E w73 [s63, s66, s69, [Hp.one b59 (.cells #[(.int .i64 a.own)] 3 (0, 0))], [Hp.one b12 (.cells #[(.slice none 0 0), (.slice none 0 0)] 86 (0, 0))], [Hp.one b9 (.cells #[(.int .i64 a.kind), (.int .i64 a.own), (S a.key), (.bool a.wr), a.mv] 71 (0, 0))], [Hp.one b6 (.cells #[v_H, v_L] 86 (0, 0))], [Hp.one tb (.cells #[(.map (some x1))] 164 (0, 0))], s2, s_H, s_L, R] := hX71.of_all3
      refine s_op (o_move (v := (.tuple #[(.agg #[v62, v65]), v68])) rfl ?_)
      refine s_op (o_extract (v := (.agg #[v62, v65])) rfl rfl ?_)
      refine s_op (o_extract (v := v68) rfl rfl ?_)
      refine s_op (o_alloc (cs := #[(.slice none 0 0), (.slice none 0 0)]) ti86 rfl hH72 fun b74 w75 hH76 => ?_)
      refine s_eff (o_storeN (vs := [v62, v65]) (c' := #[v62, v65]) ti86 rfl rfl rfl rfl (by intro u hu; simp only [List.mem_cons, List.not_mem_nil, or_false] at hu; rcases hu with rfl | rfl <;> first | rfl | exact ho64.one | exact ho67.one) (by simp) (by kernel_rfl) (hH76.front 0 rfl) fun w77 hH78 => ?_)
      refine s_op (o_assign (v := v68) rfl ?_)
      refine s_nil ?_
      refine t_norm (hK58 _ _ ?_)
      refine wp_seq_k fun K79 hK79 => ?_
      refine Rest.region mixed (by kernel_rfl) ?_
      have hH80 : Has E { w77 with drawn := w77.drawn + 1 } [[Hp.one b74 (.cells #[v62, v65] 86 (0, 0))], s63, s66, s69, [Hp.one b59 (.cells #[(.int .i64 a.own)] 3 (0, 0))], [Hp.one b12 (.cells #[(.slice none 0 0), (.slice none 0 0)] 86 (0, 0))], [Hp.one b9 (.cells #[(.int .i64 a.kind), (.int .i64 a.own), (S a.key), (.bool a.wr), a.mv] 71 (0, 0))], [Hp.one b6 (.cells #[v_H, v_L] 86 (0, 0))], [Hp.one tb (.cells #[(.map (some x1))] 164 (0, 0))], s2, s_H, s_L, R] := Has0.drew hH78 _
      refine Rest.phaseA (fun w_ => Has E w_ [[Hp.one b74 (.cells #[v62, v65] 86 (0, 0))], [Hp.one b9 (.cells #[(.int .i64 a.kind), (.int .i64 a.own), (S a.key), (.bool a.wr), a.mv] 71 (0, 0))]]) 0 7 7 rfl (by decide) (by kernel_rfl) ?_
      refine a_op 0 rfl (by kernel_rfl) (fun w_ h_ => o_loadN (cs := [v62, v65]) Try.underlying86 rfl ti86 rfl h_ (seg_sub 0 rfl) (CellsAt.one rfl) ⟨rfl, rfl⟩) ?_
      refine a_op 1 rfl (by kernel_rfl) (fun w_ h_ => o_move (v := (.pointer (some ⟨tb, 0, none⟩))) rfl ⟨rfl, rfl⟩) ?_
      refine a_op 2 rfl (by kernel_rfl) (fun w_ h_ => o_fieldAddr (k := 1) (fun _ => by kernel_rfl) rfl ⟨rfl, rfl⟩) ?_
      refine a_op 3 rfl (by kernel_rfl) (fun w_ h_ => o_load1 (v := (.int .i64 a.own)) Try.underlying3 rfl rfl h_ (seg_sub 1 rfl) (CellsAt.one rfl) ⟨rfl, rfl⟩) ?_
      refine a_op 5 rfl (by kernel_rfl) (fun w_ h_ => o_move (v := v68) rfl ⟨rfl, rfl⟩) ?_
      have hH81 : Has E { w77 with drawn := w77.drawn + 1 } [[Hp.one b74 (.cells #[v62, v65] 86 (0, 0))], [Hp.one b9 (.cells #[(.int .i64 a.kind), (.int .i64 a.own), (S a.key), (.bool a.wr), a.mv] 71 (0, 0))]] := ((hH80.front 6 rfl).front 1 rfl).first 2 rfl
      have hH82 : Has E { w77 with drawn := w77.drawn + 1 } [([Hp.one tb (.cells #[(.map (some x1))] 164 (0, 0))] ++ s2), [Hp.one b74 (.cells #[v62, v65] 86 (0, 0))], s63, s66, s69, [Hp.one b59 (.cells #[(.int .i64 a.own)] 3 (0, 0))], [Hp.one b12 (.cells #[(.slice none 0 0), (.slice none 0 0)] 86 (0, 0))], [Hp.one b9 (.cells #[(.int .i64 a.kind), (.int .i64 a.own), (S a.key), (.bool a.wr), a.mv] 71 (0, 0))], [Hp.one b6 (.cells #[v_H, v_L] 86 (0, 0))], s_H, s_L, R] := Has.cl2 ((hH80.front 9 rfl).front 9 rfl)
      have hd83 : TbAt tb ([Hp.one tb (.cells #[(.map (some x1))] 164 (0, 0))] ++ s2) v := TbAt.mk f3
      refine a_w 4 rfl (by kernel_rfl) hH81 (o_callf (vs := #[(.pointer (some ⟨tb, 0, none⟩)), (.int .i64 a.own)]) ca40 rfl (args2 rfl rfl) (quit_c (v := v) (o := a.own) hH82.all1 hd83 (hb.hkl) (hb.hkn (by omega)) (hb.sz (by omega))) ?_)
      rintro _ w91 ⟨v84, s85, sg87, rfl, ho86, hd88, hX89⟩
      refine ⟨_, rfl, ?_⟩
      have hH90 : Has E w91 [s85, sg87, [Hp.one b74 (.cells #[v62, v65] 86 (0, 0))], s63, s66, s69, [Hp.one b59 (.cells #[(.int .i64 a.own)] 3 (0, 0))], [Hp.one b12 (.cells #[(.slice none 0 0), (.slice none 0 0)] 86 (0, 0))], [Hp.one b9 (.cells #[(.int .i64 a.kind), (.int .i64 a.own), (S a.key), (.bool a.wr), a.mv] 71 (0, 0))], [Hp.one b6 (.cells #[v_H, v_L] 86 (0, 0))], s_H, s_L, R] := hX89.of_all2
      have hb92 := hb.leave hd (all := false) (ow := [a.own])
      have hs93 := hs.leave hd (all := false) (ow := [a.own])
      have hd94 := leave_nodup hd (all := false) (ow := [a.own])
      have hH95 : Has E w91 [[Hp.one b74 (.cells #[v62, v65] 86 (0, 0))], [Hp.one b9 (.cells #[(.int .i64 a.kind), (.int .i64 a.own), (S a.key), (.bool a.wr), a.mv] 71 (0, 0))]] := ((hH90.front 8 rfl).front 3 rfl).first 2 rfl
      refine a_w 6 rfl (by kernel_rfl) hH95 (o_callf (vs := #[v84, v68]) ca49 rfl (args2 rfl rfl) (same_c hH90.all (a := ((leaveS false [a.own] v.keys).2)) (b := ((leaveR false [a.own] H L).2)) (ho86.sl.mono (seg_sub 0 rfl)) (ho70.sl.mono (seg_sub 5 rfl))) ?_)
      rintro _ w98 ⟨rfl, hX96⟩
      refine ⟨_, rfl, ?_⟩
      have hH97 := hX96.of_all
      have hH99 : Has E w98 [[Hp.one b74 (.cells #[v62, v65] 86 (0, 0))], [Hp.one b9 (.cells #[(.int .i64 a.kind), (.int .i64 a.own), (S a.key), (.bool a.wr), a.mv] 71 (0, 0))]] := ((hH97.front 8 rfl).front 3 rfl).first 2 rfl
      refine a_done (by kernel_rfl) hH99 ?_
      refine r_eff 7 rfl (by kernel_rfl) (o_storeN (vs := [v62, v65]) (c' := #[v62, v65]) ti86 rfl rfl rfl rfl (by intro u hu; simp only [List.mem_cons, List.not_mem_nil, or_false] at hu; rcases hu with rfl | rfl <;> first | rfl | exact ho64.one | exact ho67.one) (by simp) (by kernel_rfl) (hH97.front 7 rfl) fun w100 hH101 => ?_)
      refine r_op 8 rfl (by kernel_rfl) (o_assign (v := (.bool (decide (((leaveS false [a.own] v.keys).2) = ((leaveR false [a.own] H L).2))))) rfl ?_)
      refine Rest.done (by kernel_rfl) ?_
      refine t_norm (hK79 _ _ ?_)
      refine wp_ret ?_
      refine b_ret (t_ret (c_retC2 Try.results46 rfl (run_loadVarN (cs := [v62, v65]) Try.underlying86 rfl ti86 hH101 (seg_sub 0 rfl) (CellsAt.one rfl)) (x := (.bool (decide (((leaveS false [a.own] v.keys).2) = ((leaveR false [a.own] H L).2))))) rfl ?_))
      have q102 : (doR H L a).1 = ((leaveR false [a.own] H L).1.1) := by rw [doR_1 h18 h57]
      have q103 : (doR H L a).2 = ((leaveR false [a.own] H L).1.2) := by rw [doR_1 h18 h57]
      have q104 : decide (((leaveS false [a.own] v.keys).2) = ((leaveR false [a.own] H L).2)) = true := by exact decide_eq_true hrel.leave.1
      have q105 : (⟨doT v.keys a⟩ : TabS) = (⟨(leaveS false [a.own] v.keys).1⟩ : TabS) := by rw [doT_1 h18 h57]
      have hH106 : Has E w100 [s63, s66, sg87, R] := ((((hH101.front 12 rfl).front 3 rfl).front 6 rfl).front 6 rfl).first 4 rfl
      exact ⟨_, _, _, _, _, by rw [q104], (by rw [q102]; exact ho64), (by rw [q103]; exact ho67), (by rw [q105]; exact hd88), hH106⟩
    · -- not: a.kind = 1
      refine wp_skip ?_
      refine b_norm ?_
      refine t_norm (hK15 _ _ ?_)
      refine wp_seq_k fun K107 hK107 => ?_
      refine c_region ?_
      refine s_op (o_fieldAddr (k := 1) (fun _ => by kernel_rfl) rfl ?_)
      refine s_op (o_load1 (v := (.int .i64 a.own)) Try.underlying3 rfl rfl hH14 (seg_sub 1 rfl) (CellsAt.one rfl) ?_)
      refine s_op (o_buildSlice (ps := #[(0, (.int .i64 a.own))]) (cells := #[(.int .i64 a.own)]) Try.underlying54 ti3 (by decide) (parts1 rfl) (by kernel_rfl) hH14 fun b108 w109 hH110 => ?_)
      refine s_op (o_fieldAddr (k := 4) (fun _ => by kernel_rfl) rfl ?_)
      refine s_op (o_load1 (v := a.mv) Try.underlying54 rfl rfl hH110 (seg_sub 2 rfl) (CellsAt.one rfl) ?_)
      have ho111 : Own 3 1 (.slice (some ⟨b108, 0, none⟩) 1 1) [a.own].length ([a.own].map iV) [Hp.one b108 (.cells #[(.int .i64 a.own)] 3 (0, 0))] := Own.lit (e := 3) (sz := 1) (n := 1) (b := b108) (cur := #[(.int .i64 a.own)]) rfl (by decide)
      refine s_op (o_append Try.underlying54 ti3 rfl (by decide) rfl ho111 rfl hla (hH110.front 0 rfl) (seg_sub 7 rfl) (one_iV _) (by simp; omega) (by simp; omega) fun v112 s113 w115 ho114 hH116 => ?_)
      have ho114 : Own 3 1 v112 ([a.own] ++ a.more).length (([a.own] ++ a.more).map iV) s113 := ho114.app
      refine s_op (o_assign (v := v112) rfl ?_)
      refine s_nil ?_
      refine t_norm (hK107 _ _ ?_)
      refine wp_seq_k fun K117 hK117 => ?_
      refine c_region ?_
      refine s_op (o_loadN (cs := [v_H, v_L]) Try.underlying86 rfl ti86 rfl hH116 (seg_sub 3 rfl) (CellsAt.one rfl) ?_)
      refine s_op (o_move (v := v112) rfl ?_)
      refine s_op (o_callf (vs := #[(.agg #[v_H, v_L]), v112, (.bool true)]) ca99 rfl (args3 rfl rfl rfl) (rleave_c (H := H) (L := L) (ow := [a.own] ++ a.more) (all := true) hH116.all (h_H.sl.mono (seg_sub 6 rfl)) (h_L.sl.mono (seg_sub 7 rfl)) (ho114.sl.mono (seg_sub 0 rfl)) (by first | omega | (simp only []; omega) | (simp; done) | (simp; omega))) ?_)
      rintro _ w129 ⟨v118, s119, v121, s122, v124, s125, rfl, ho120, ho123, ho126, hX127⟩
      refine ⟨_, rfl, ?_⟩
      have hH128 : Has E w129 [s119, s122, s125, s113, [Hp.one b12 (.cells #[(.slice none 0 0), (.slice none 0 0)] 86 (0, 0))], [Hp.one b9 (.cells #[(.int .i64 a.kind), (.int .i64 a.own), (S a.key), (.bool a.wr), a.mv] 71 (0, 0))], [Hp.one b6 (.cells #[v_H, v_L] 86 (0, 0))], [Hp.one tb (.cells #[(.map (some x1))] 164 (0, 0))], s2, s_H, s_L, R] := hX127.of_all3
      refine s_op (o_move (v := (.tuple #[(.agg #[v118, v121]), v124])) rfl ?_)
      refine s_op (o_extract (v := (.agg #[v118, v121])) rfl rfl ?_)
      refine s_op (o_extract (v := v124) rfl rfl ?_)
      refine s_op (o_alloc (cs := #[(.slice none 0 0), (.slice none 0 0)]) ti86 rfl hH128 fun b130 w131 hH132 => ?_)
      refine s_eff (o_storeN (vs := [v118, v121]) (c' := #[v118, v121]) ti86 rfl rfl rfl rfl (by intro u hu; simp only [List.mem_cons, List.not_mem_nil, or_false] at hu; rcases hu with rfl | rfl <;> first | rfl | exact ho120.one | exact ho123.one) (by simp) (by kernel_rfl) (hH132.front 0 rfl) fun w133 hH134 => ?_)
      refine s_op (o_assign (v := v124) rfl ?_)
      refine s_nil ?_
      refine t_norm (hK117 _ _ ?_)
      refine wp_seq_k fun K135 hK135 => ?_
      refine Rest.region mixed (by kernel_rfl) ?_
      have hH136 : Has E { w133 with drawn := w133.drawn + 1 } [[Hp.one b130 (.cells #[v118, v121] 86 (0, 0))], s119, s122, s125, s113, [Hp.one b12 (.cells #[(.slice none 0 0), (.slice none 0 0)] 86 (0, 0))], [Hp.one b9 (.cells #[(.int .i64 a.kind), (.int .i64 a.own), (S a.key), (.bool a.wr), a.mv] 71 (0, 0))], [Hp.one b6 (.cells #[v_H, v_L] 86 (0, 0))], [Hp.one tb (.cells #[(.map (some x1))] 164 (0, 0))], s2, s_H, s_L, R] := Has0.drew hH134 _
      refine Rest.phaseA (fun w_ => Has E w_ [[Hp.one b130 (.cells #[v118, v121] 86 (0, 0))]]) 0 6 6 rfl (by decide) (by kernel_rfl) ?_
      refine a_op 0 rfl (by kernel_rfl) (fun w_ h_ => o_loadN (cs := [v118, v121]) Try.underlying86 rfl ti86 rfl h_ (seg_sub 0 rfl) (CellsAt.one rfl) ⟨rfl, rfl⟩) ?_
      refine a_op 1 rfl (by kernel_rfl) (fun w_ h_ => o_move (v := (.pointer (some ⟨tb, 0, none⟩))) rfl ⟨rfl, rfl⟩) ?_
      refine a_op 2 rfl (by kernel_rfl) (fun w_ h_ => o_move (v := v112) rfl ⟨rfl, rfl⟩) ?_
      refine a_op 4 rfl (by kernel_rfl) (fun w_ h_ => o_move (v := v124) rfl ⟨rfl, rfl⟩) ?_
      have hH137 : Has E { w133 with drawn := w133.drawn + 1 } [[Hp.one b130 (.cells #[v118, v121] 86 (0, 0))]] := hH136.first 1 rfl
      have hH138 : Has E { w133 with drawn := w133.drawn + 1 } [([Hp.one tb (.cells #[(.map (some x1))] 164 (0, 0))] ++ s2), [Hp.one b130 (.cells #[v118, v121] 86 (0, 0))], s119, s122, s125, s113, [Hp.one b12 (.cells #[(.slice none 0 0), (.slice none 0 0)] 86 (0, 0))], [Hp.one b9 (.cells #[(.int .i64 a.kind), (.int .i64 a.own), (S a.key), (.bool a.wr), a.mv] 71 (0, 0))], [Hp.one b6 (.cells #[v_H, v_L] 86 (0, 0))], s_H, s_L, R] := Has.cl2 ((hH136.front 9 rfl).front 9 rfl)
      have hd139 : TbAt tb ([Hp.one tb (.cells #[(.map (some x1))] 164 (0, 0))] ++ s2) v := TbAt.mk f3
      refine a_w 3 rfl (by kernel_rfl) hH137 (o_callf (vs := #[(.pointer (some ⟨tb, 0, none⟩)), v112]) ca41 rfl (args2 rfl rfl) (free_t (v := v) (ow := [a.own] ++ a.more) hH138.all1 hd139 (ho114.sl.mono (seg_sub 4 rfl)) (hb.hkl) (hb.hkn (by omega)) (hb.sz (by omega))) ?_)
      rintro _ w147 ⟨v140, s141, sg143, rfl, ho142, hd144, hX145⟩
      refine ⟨_, rfl, ?_⟩
      have hH146 : Has E w147 [s141, sg143, [Hp.one b130 (.cells #[v118, v121] 86 (0, 0))], s119, s122, s125, s113, [Hp.one b12 (.cells #[(.slice none 0 0), (.slice none 0 0)] 86 (0, 0))], [Hp.one b9 (.cells #[(.int .i64 a.kind), (.int .i64 a.own), (S a.key), (.bool a.wr), a.mv] 71 (0, 0))], [Hp.one b6 (.cells #[v_H, v_L] 86 (0, 0))], s_H, s_L, R] := hX145.of_all2
      have hb148 := hb.leave hd (all := true) (ow := [a.own] ++ a.more)
      have hs149 := hs.leave hd (all := true) (ow := [a.own] ++ a.more)
      have hd150 := leave_nodup hd (all := true) (ow := [a.own] ++ a.more)
      have hH151 : Has E w147 [[Hp.one b130 (.cells #[v118, v121] 86 (0, 0))]] := (hH146.front 2 rfl).first 1 rfl
      refine a_w 5 rfl (by kernel_rfl) hH151 (o_callf (vs := #[v140, v124]) ca49 rfl (args2 rfl rfl) (same_c hH146.all (a := ((leaveS true ([a.own] ++ a.more) v.keys).2)) (b := ((leaveR true ([a.own] ++ a.more) H L).2)) (ho142.sl.mono (seg_sub 0 rfl)) (ho126.sl.mono (seg_sub 5 rfl))) ?_)
      rintro _ w154 ⟨rfl, hX152⟩
      refine ⟨_, rfl, ?_⟩
      have hH153 := hX152.of_all
      have hH155 : Has E w154 [[Hp.one b130 (.cells #[v118, v121] 86 (0, 0))]] := (hH153.front 2 rfl).first 1 rfl
      refine a_done (by kernel_rfl) hH155 ?_
      refine r_eff 6 rfl (by kernel_rfl) (o_storeN (vs := [v118, v121]) (c' := #[v118, v121]) ti86 rfl rfl rfl rfl (by intro u hu; simp only [List.mem_cons, List.not_mem_nil, or_false] at hu; rcases hu with rfl | rfl <;> first | rfl | exact ho120.one | exact ho123.one) (by simp) (by kernel_rfl) (hH153.front 7 rfl) fun w156 hH157 => ?_)
      refine r_op 7 rfl (by kernel_rfl) (o_assign (v := (.bool (decide (((leaveS true ([a.own] ++ a.more) v.keys).2) = ((leaveR true ([a.own] ++ a.more) H L).2))))) rfl ?_)
      refine Rest.done (by kernel_rfl) ?_
      refine t_norm (hK135 _ _ ?_)
      refine wp_ret ?_
      refine c_retC2 Try.results46 rfl (run_loadVarN (cs := [v118, v121]) Try.underlying86 rfl ti86 hH157 (seg_sub 0 rfl) (CellsAt.one rfl)) (x := (.bool (decide (((leaveS true ([a.own] ++ a.more) v.keys).2) = ((leaveR true ([a.own] ++ a.more) H L).2))))) rfl ?_
      have q158 : (doR H L a).1 = ((leaveR true ([a.own] ++ a.more) H L).1.1) := by rw [doR_2 h18 h57]
      have q159 : (doR H L a).2 = ((leaveR true ([a.own] ++ a.more) H L).1.2) := by rw [doR_2 h18 h57]
      have q160 : decide (((leaveS true ([a.own] ++ a.more) v.keys).2) = ((leaveR true ([a.own] ++ a.more) H L).2)) = true := by exact decide_eq_true hrel.leave.1
      have q161 : (⟨doT v.keys a⟩ : TabS) = (⟨(leaveS true ([a.own] ++ a.more) v.keys).1⟩ : TabS) := by rw [doT_2 h18 h57]
      have hH162 : Has E w156 [s119, s122, sg143, R] := ((((hH157.front 12 rfl).front 3 rfl).front 6 rfl).front 6 rfl).first 4 rfl
      exact ⟨_, _, _, _, _, by rw [q160], (by rw [q158]; exact ho120), (by rw [q159]; exact ho123), (by rw [q161]; exact hd144), hH162⟩
end Go.Q
namespace Go.Q
open Go.Proofs
set_option linter.unusedVariables false
set_option maxRecDepth 100000
attribute [local irreducible] wpList OK Code.wp
set_option maxHeartbeats 4000000 in
theorem LockPlays_c {E w : World} {R : List Hp} {v_l : Value} {l : List LAct} {owner : Int} {key : Bs}  (hH : Has E w [R]) (h_l : Sl R 5 v_l l.length (l.flatMap laC)) (hok : ∀ a ∈ l, LaOk R a) :
    Calls Try.prog 8 #[v_l, (.int .i64 owner), (S key)] w fun e w' => e = .returned (.bool true) ∧ Has E w' [R] := by
  have hn_ := h_l.le
  have hml := fun (x : LAct) (hx : x ∈ l) => (hok x hx).le
  refine c_enter (args := [v_l, (.int .i64 owner), (S key)]) Try.func8 rfl Try.ntmps8 (by simp) ?_
  refine wp_seq_k fun K1 hK1 => ?_
  refine c_region ?_
  refine s_op (o_assign (v := (.bool false)) rfl ?_)
  refine s_nil ?_
  refine t_norm (hK1 _ _ ?_)
  refine wp_seq_k fun K2 hK2 => ?_
  refine wp_seq_k fun K3 hK3 => ?_
  refine c_region ?_
  refine s_op (o_move (v := v_l) rfl ?_)
  refine s_op (o_callf (vs := #[v_l]) ca36 rfl (args1 rfl) (great14_c (l := l) hH.all (h_l.mono (seg_sub 0 rfl)) (fun a_ ha_ => (hok a_ ha_).mono (seg_sub 0 rfl))) ?_)
  rintro _ w8 ⟨gb_4, rfl, hg_5, hX6⟩
  refine ⟨_, rfl, ?_⟩
  have hH7 : Has E w8 [R] := hX6.of_all
  refine s_op (o_move (v := (.bool gb_4)) rfl ?_)
  rcases Bool.eq_false_or_eq_true gb_4 with h9 | h9
  · -- gb_4
    refine s_off (b' := true) 14 rfl (congrArg Value.bool h9) rfl ?_
    refine s_off (b' := true) 14 rfl (congrArg Value.bool h9) rfl ?_
    refine s_off (b' := true) 14 rfl (congrArg Value.bool h9) rfl ?_
    refine s_op (o_pick_t (u := (.bool true)) ((rfl : _ = _).trans (congrArg Value.bool h9)) rfl ?_)
    refine s_op (o_move (v := (.bool true)) rfl ?_)
    refine s_off (b' := true) 19 rfl rfl rfl ?_
    refine s_off (b' := true) 19 rfl rfl rfl ?_
    refine s_op (o_pick_t (u := (.bool true)) rfl rfl ?_)
    refine s_nil ?_
    refine t_norm (hK3 _ _ ?_)
    refine c_true rfl rfl ?_
    refine wp_seq_k fun K10 hK10 => ?_
    refine c_region ?_
    refine s_op (o_callf (vs := #[]) ca37 rfl (args0) (awake14_c hH7.all ) ?_)
    rintro _ w13 ⟨rfl, hX11⟩
    refine ⟨_, rfl, ?_⟩
    have hH12 := hX11.of_all
    refine s_op (o_assign (v := (.bool true)) rfl ?_)
    refine s_nil ?_
    refine t_norm (hK10 _ _ ?_)
    refine wp_ret ?_
    refine t_ret (c_ret1 Try.results8  (v := (.bool true)) rfl ?_)
    exact ⟨by first | rfl | simp, hH12⟩
  · -- not: gb_4
    have hfine := hg_5 h9
    have hl60 := hfine.1
    refine s_on 14 rfl (congrArg Value.bool h9) (o_move (v := (S key)) rfl ?_)
    refine s_on 14 rfl (congrArg Value.bool h9) (o_slen Try.underlying9 rfl ?_)
    refine s_on 14 rfl (congrArg Value.bool h9) (o_gtr (a := (key.length : Int)) (b := 100) rfl rfl ?_)
    refine s_op (o_pick_f (u := (.bool (decide (100 < (key.length : Int))))) ((rfl : _ = _).trans (congrArg Value.bool h9)) rfl ?_)
    refine s_op (o_move (v := (.bool (decide (100 < (key.length : Int))))) rfl ?_)
    by_cases h14 : 100 < (key.length : Int)
    · -- 100 < (key.length : Int)
      refine s_off (b' := true) 19 rfl (congrArg Value.bool (decide_eq_true h14)) rfl ?_
      refine s_off (b' := true) 19 rfl (congrArg Value.bool (decide_eq_true h14)) rfl ?_
      refine s_op (o_pick_t (u := (.bool true)) ((rfl : _ = _).trans (congrArg Value.bool (decide_eq_true h14))) rfl ?_)
      refine s_nil ?_
      refine t_norm (hK3 _ _ ?_)
      refine c_true rfl rfl ?_
      refine wp_seq_k fun K15 hK15 => ?_
      refine c_region ?_
      refine s_op (o_callf (vs := #[]) ca37 rfl (args0) (awake14_c hH7.all ) ?_)
      rintro _ w18 ⟨rfl, hX16⟩
      refine ⟨_, rfl, ?_⟩
      have hH17 := hX16.of_all
      refine s_op (o_assign (v := (.bool true)) rfl ?_)
      refine s_nil ?_
      refine t_norm (hK15 _ _ ?_)
      refine wp_ret ?_
      refine t_ret (c_ret1 Try.results8  (v := (.bool true)) rfl ?_)
      exact ⟨by first | rfl | simp, hH17⟩
    · -- not: 100 < (key.length : Int)
      refine s_on 19 rfl (congrArg Value.bool (decide_eq_false h14)) (o_callf (vs := #[]) ca37 rfl (args0) (awake14_c hH7.all ) ?_)
      rintro _ w21 ⟨rfl, hX19⟩
      refine ⟨_, rfl, ?_⟩
      have hH20 := hX19.of_all
      refine s_on 19 rfl (congrArg Value.bool (decide_eq_false h14)) (o_not rfl ?_)
      refine s_op (o_pick_f (u := (.bool false)) ((rfl : _ = _).trans (congrArg Value.bool (decide_eq_false h14))) rfl ?_)
      refine s_nil ?_
      refine t_norm (hK3 _ _ ?_)
      refine c_false rfl rfl ?_
      refine wp_skip ?_
      refine t_norm (hK2 _ _ ?_)
      refine wp_seq_k fun K22 hK22 => ?_
      refine c_region ?_
      refine s_op (o_callf (vs := #[]) ca38 rfl (args0) (new_c hH20.all ) ?_)
      rintro _ w28 ⟨b23, sg24, rfl, hd25, hX26⟩
      refine ⟨_, rfl, ?_⟩
      have hH27 : Has E w28 [sg24, R] := hX26.of_all1
      refine s_op (o_assign (v := (.pointer (some ⟨b23, 0, none⟩))) rfl ?_)
      refine s_nil ?_
      refine t_norm (hK22 _ _ ?_)
      refine wp_seq_k fun K29 hK29 => ?_
      refine c_region ?_
      refine s_op (o_sight (v := (.agg #[(.slice none 0 0), (.slice none 0 0)])) (fun _ => by kernel_rfl) ?_)
      refine s_op (o_alloc (cs := #[(.slice none 0 0), (.slice none 0 0)]) ti86 rfl hH27 fun b30 w31 hH32 => ?_)
      refine s_eff (o_storeN (vs := [(.slice none 0 0), (.slice none 0 0)]) (c' := #[(.slice none 0 0), (.slice none 0 0)]) ti86 rfl rfl rfl rfl (by intro u hu; simp only [List.mem_cons, List.not_mem_nil, or_false] at hu; rcases hu with rfl | rfl <;> first | rfl) (by simp) (by kernel_rfl) (hH32.front 0 rfl) fun w33 hH34 => ?_)
      refine s_nil ?_
      refine t_norm (hK29 _ _ ?_)
      refine wp_seq_k fun K35 hK35 => ?_
      refine wp_seq_k fun K36 hK36 => ?_
      refine c_region ?_
      refine s_op (o_assign (v := (.int .i64 0)) rfl ?_)
      refine s_nil ?_
      refine t_norm (hK36 _ _ ?_)
      refine wp_block ?_
      let I38 : Nat → (Nat → Value) → World → Prop := fun n__ r__ w__ => ∃ (i : Nat) (t2 : Tab) (sg2 : List Hp) (vh : Value) (sh : List Hp) (hh : List Plc) (vl : Value) (sl : List Hp) (ll : List Plc), n__ = l.length - i ∧ Has E w__ [sh, sl, [Hp.one b30 (.cells #[vh, vl] 86 (0, 0))], sg2, R] ∧ (i ≤ l.length) ∧ (TbAt b23 sg2 (⟨t2⟩ : TabS)) ∧ (LkB t2 i) ∧ (LkS t2) ∧ ((t2.map (·.1)).Nodup) ∧ (Own 183 3 vh hh.length (hh.flatMap rcC) sh) ∧ (Own 183 3 vl ll.length (ll.flatMap rcC) sl) ∧ (Rel t2 hh ll) ∧ (hh.length + ll.length ≤ i) ∧ r__ 0 = v_l ∧ r__ 1 = (.int .i64 owner) ∧ r__ 2 = (S key) ∧ r__ 7 = (.pointer (some ⟨b23, 0, none⟩)) ∧ r__ 8 = (.pointer (some ⟨b30, 0, none⟩)) ∧ r__ 9 = (.int .i64 (i : Int)) ∧ r__ 22 = (.bool false)
      have hH39 : Has E w33 [[], [], [Hp.one b30 (.cells #[(.slice none 0 0), (.slice none 0 0)] 86 (0, 0))], sg24, R] := (Has.nil (Has.nil (((hH34.front 2 rfl).front 2 rfl).front 2 rfl))).first 5 rfl
      refine c_loop I38 _ ⟨0, [], sg24, (.slice none 0 0), [], ([] : List Plc), (.slice none 0 0), [], ([] : List Plc), rfl, hH39, Nat.zero_le _, hd25, LkB.nil, LkS.nil, (show (([] : Tab).map (·.1)).Nodup from List.nodup_nil), (Own.nil 183 3), (Own.nil 183 3), Rel.nil, Nat.le_refl _, rfl, rfl, rfl, rfl, rfl, rfl, rfl⟩ ?_
      rintro n_ r42 w40 ⟨i, t2, sg2, vh, sh, hh, vl, sl, ll, rfl, hH41, hi, ht2, hb2, hs2, hd2, hoh, hol, hr2, hz2, e37_0, e37_1, e37_2, e37_7, e37_8, e37_9, e37_22⟩
      refine wp_seq_k fun K43 hK43 => ?_
      refine wp_seq_k fun K44 hK44 => ?_
      refine c_region ?_
      refine s_op (o_move (v := (.int .i64 (i : Int))) e37_9 ?_)
      refine s_op (o_move (v := v_l) e37_0 ?_)
      refine s_op (o_lenS Try.underlying66 rfl h_l ?_)
      refine s_op (o_lss (a := (i : Int)) (b := ((l.length : Nat) : Int)) rfl rfl ?_)
      refine s_nil ?_
      refine t_norm (hK44 _ _ ?_)
      refine c_cond rfl (fun h45 => ?_) (fun h45 => ?_)
      · -- (i : Int) < ((l.length : Nat) : Int)
        refine wp_skip ?_
        refine t_norm (hK43 _ _ ?_)
        refine wp_seq_k fun K46 hK46 => ?_
        refine wp_block ?_
        refine wp_seq_k fun K47 hK47 => ?_
        refine Rest.region mixed (by kernel_rfl) ?_
        have hH48 : Has E { w40 with drawn := w40.drawn + 1 } [sh, sl, [Hp.one b30 (.cells #[vh, vl] 86 (0, 0))], sg2, R] := Has0.drew hH41 _
        refine Rest.phaseA (fun w_ => Has E w_ [[Hp.one b30 (.cells #[vh, vl] 86 (0, 0))], R]) 0 12 12 rfl (by decide) (by kernel_rfl) ?_
        refine a_op 0 rfl (by kernel_rfl) (fun w_ h_ => o_move (v := (.pointer (some ⟨b23, 0, none⟩))) e37_7 ⟨rfl, rfl⟩) ?_
        refine a_op 1 rfl (by kernel_rfl) (fun w_ h_ => o_loadN (cs := [vh, vl]) Try.underlying86 rfl ti86 e37_8 h_ (seg_sub 0 rfl) (CellsAt.one rfl) ⟨rfl, rfl⟩) ?_
        refine a_op 2 rfl (by kernel_rfl) (fun w_ h_ => o_move (v := v_l) e37_0 ⟨rfl, rfl⟩) ?_
        refine a_op 3 rfl (by kernel_rfl) (fun w_ h_ => o_move (v := (.int .i64 (i : Int))) e37_9 ⟨rfl, rfl⟩) ?_
        obtain ⟨x52, hx53⟩ : ∃ x_, l[((i : Int)).toNat]? = some x_ := get_some (by omega)
        obtain ⟨b49, o50, hc51, ho54⟩ := ix_exF laC_len Try.underlying66 ti71 h_l (by omega) hx53
        refine a_op 4 rfl (by kernel_rfl) (fun w_ h_ => ho54 rfl rfl ⟨rfl, rfl⟩) ?_
        refine a_op 5 rfl (by kernel_rfl) (fun w_ h_ => o_loadN (cs := [(.int .i64 x52.kind), (.int .i64 x52.own), (S x52.key), (.bool x52.wr), x52.mv]) Try.underlying71 rfl ti71 rfl h_ (seg_sub 1 rfl) hc51 ⟨rfl, rfl⟩) ?_
        have hH55 : Has E { w40 with drawn := w40.drawn + 1 } [[Hp.one b30 (.cells #[vh, vl] 86 (0, 0))], R] := ((hH48.front 4 rfl).front 3 rfl).first 2 rfl
        refine a_two 6 10 (by kernel_rfl) hH55 ?_ ?_
        · -- first operation 6
          have hH56 : Has E { w40 with drawn := w40.drawn + 1 } [[Hp.one b30 (.cells #[vh, vl] 86 (0, 0))], R] := ((hH48.front 4 rfl).front 3 rfl).first 2 rfl
          obtain ⟨hfa_, hfb_⟩ := hfine.2 _ (List.mem_of_getElem? hx53)
          refine ok_w 6 rfl (o_callf (vs := #[(.pointer (some ⟨b23, 0, none⟩)), (.agg #[vh, vl]), (.agg #[(.int .i64 x52.kind), (.int .i64 x52.own), (S x52.key), (.bool x52.wr), x52.mv])]) ca46 rfl (args3 rfl rfl rfl) (does14_c (v := (⟨t2⟩ : TabS)) (H := hh) (L := ll) (a := x52) (((hH48.front 1 rfl).front 1 rfl).front 3 rfl).all3 ht2 hoh hol ((hok _ (List.mem_of_getElem? hx53)).mono (seg_sub 1 rfl)) hr2 ((hb2).mono (by omega)) (by omega) (by omega) (by omega)) ?_)
          rintro _ w67 ⟨v57, s58, v60, s61, sg63, rfl, ho59, ho62, hd64, hX65⟩
          refine ⟨_, rfl, ?_⟩
          have hH66 : Has E w67 [s58, s61, sg63, [Hp.one b30 (.cells #[vh, vl] 86 (0, 0))], R] := hX65.of_all3
          have hr68 := (hr2).does x52
          have hb69 := (hb2).does hr2 (a := x52) (by omega)
          have hs70 := hr68.ok
          have hd71 := hr68.nd
          have hz72 := does_len (H := hh) (L := ll) (a := x52)
          refine a_op 7 rfl (by kernel_rfl) (fun w_ h_ => o_move (v := (.tuple #[(.agg #[v57, v60]), (.bool true)])) rfl ⟨rfl, rfl⟩) ?_
          refine a_op 8 rfl (by kernel_rfl) (fun w_ h_ => o_extract (v := (.agg #[v57, v60])) rfl rfl ⟨rfl, rfl⟩) ?_
          refine a_op 9 rfl (by kernel_rfl) (fun w_ h_ => o_extract (v := (.bool true)) rfl rfl ⟨rfl, rfl⟩) ?_
          have hH73 : Has E w67 [[Hp.one b30 (.cells #[vh, vl] 86 (0, 0))], R] := ((hH66.front 4 rfl).front 4 rfl).first 2 rfl
          refine a_w 10 rfl (by kernel_rfl) hH73 (o_alloc (cs := #[(.slice none 0 0), (.slice none 0 0)]) ti86 rfl hH66 fun b74 w75 hH76 => ?_)
          have hH77 : Has E w75 [[Hp.one b30 (.cells #[vh, vl] 86 (0, 0))], R] := ((hH76.front 5 rfl).front 5 rfl).first 2 rfl
          refine a_we 11 rfl (by kernel_rfl) hH77 (o_storeN (vs := [v57, v60]) (c' := #[v57, v60]) ti86 rfl rfl rfl rfl (by intro u hu; simp only [List.mem_cons, List.not_mem_nil, or_false] at hu; rcases hu with rfl | rfl <;> first | rfl | exact ho59.one | exact ho62.one) (by simp) (by kernel_rfl) (hH76.front 0 rfl) fun w78 hH79 => ?_)
          have hH80 : Has E w78 [[Hp.one b30 (.cells #[vh, vl] 86 (0, 0))], R] := ((hH79.front 5 rfl).front 5 rfl).first 2 rfl
          refine a_done (by kernel_rfl) hH80 ?_
          refine r_op 12 rfl (by kernel_rfl) (o_assign (v := (.bool true)) rfl ?_)
          refine Rest.done (by kernel_rfl) ?_
          refine t_norm (hK47 _ _ ?_)
          refine wp_seq_k fun K81 hK81 => ?_
          refine c_region ?_
          refine s_op (o_loadN (cs := [v57, v60]) Try.underlying86 rfl ti86 rfl hH79 (seg_sub 0 rfl) (CellsAt.one rfl) ?_)
          refine s_eff (o_storeN (vs := [v57, v60]) (c' := #[v57, v60]) ti86 e37_8 rfl rfl rfl (by intro u hu; simp only [List.mem_cons, List.not_mem_nil, or_false] at hu; rcases hu with rfl | rfl <;> first | rfl | exact ho59.one | exact ho62.one) (by simp) (by kernel_rfl) (hH79.front 4 rfl) fun w82 hH83 => ?_)
          refine s_nil ?_
          refine t_norm (hK81 _ _ ?_)
          refine wp_seq_k fun K84 hK84 => ?_
          refine Rest.region mixed (by kernel_rfl) ?_
          have hH85 : Has E { w82 with drawn := w82.drawn + 1 } [[Hp.one b30 (.cells #[v57, v60] 86 (0, 0))], [Hp.one b74 (.cells #[v57, v60] 86 (0, 0))], s58, s61, sg63, R] := Has0.drew hH83 _
          refine r_op 0 rfl (by kernel_rfl) (o_move (v := (.bool true)) rfl ?_)
          refine r_op 1 rfl (by kernel_rfl) (o_not rfl ?_)
          refine r_op 2 rfl (by kernel_rfl) (o_move (v := (.bool false)) rfl ?_)
          refine Rest.phaseA (fun w_ => Has E w_ [[Hp.one b30 (.cells #[v57, v60] 86 (0, 0))]]) 3 7 4 rfl (by decide) (by kernel_rfl) ?_
          refine a_on 3 rfl (by kernel_rfl) 45 rfl rfl (fun w_ h_ => o_move (v := (.pointer (some ⟨b23, 0, none⟩))) e37_7 ⟨rfl, rfl⟩) ?_
          refine a_on 4 rfl (by kernel_rfl) 45 rfl rfl (fun w_ h_ => o_loadN (cs := [v57, v60]) Try.underlying86 rfl ti86 e37_8 h_ (seg_sub 0 rfl) (CellsAt.one rfl) ⟨rfl, rfl⟩) ?_
          refine a_on 5 rfl (by kernel_rfl) 45 rfl rfl (fun w_ h_ => o_move (v := (.int .i64 owner)) e37_1 ⟨rfl, rfl⟩) ?_
          refine a_on 6 rfl (by kernel_rfl) 45 rfl rfl (fun w_ h_ => o_move (v := (S key)) e37_2 ⟨rfl, rfl⟩) ?_
          have hH86 : Has E { w82 with drawn := w82.drawn + 1 } [[Hp.one b30 (.cells #[v57, v60] 86 (0, 0))]] := hH85.first 1 rfl
          refine a_done (by kernel_rfl) hH86 ?_
          refine r_on 7 rfl (by kernel_rfl) 45 rfl rfl (o_callf (vs := #[(.pointer (some ⟨b23, 0, none⟩)), (.agg #[v57, v60]), (.int .i64 owner), (S key)]) ca47 rfl (args4 rfl rfl rfl rfl) (looks14_c (v := (⟨doT (⟨t2⟩ : TabS).keys x52⟩ : TabS)) (H := ((doR hh ll x52).1)) (L := ((doR hh ll x52).2)) (owner := owner) (key := key) hH85.all (hd64.rd.mono (seg_sub 4 rfl)) (ho59.sl.mono (seg_sub 2 rfl)) (ho62.sl.mono (seg_sub 3 rfl)) hr68 ((hb69).mono (by omega)) (by omega)) ?_)
          rintro _ w89 ⟨rfl, hX87⟩
          refine ⟨_, rfl, ?_⟩
          have hH88 := hX87.of_all
          refine r_on 8 rfl (by kernel_rfl) 45 rfl rfl (o_not rfl ?_)
          refine r_op 9 rfl (by kernel_rfl) (o_pick_f (u := (.bool false)) rfl rfl ?_)
          refine r_op 10 rfl (by kernel_rfl) (o_move (v := (.bool false)) rfl ?_)
          refine Rest.phaseA (fun w_ => Has E w_ [[Hp.one b30 (.cells #[v57, v60] 86 (0, 0))], R]) 11 23 12 rfl (by decide) (by kernel_rfl) ?_
          refine a_on 11 rfl (by kernel_rfl) 53 rfl rfl (fun w_ h_ => o_move (v := (.pointer (some ⟨b23, 0, none⟩))) e37_7 ⟨rfl, rfl⟩) ?_
          refine a_on 12 rfl (by kernel_rfl) 53 rfl rfl (fun w_ h_ => o_loadN (cs := [v57, v60]) Try.underlying86 rfl ti86 e37_8 h_ (seg_sub 0 rfl) (CellsAt.one rfl) ⟨rfl, rfl⟩) ?_
          refine a_on 13 rfl (by kernel_rfl) 53 rfl rfl (fun w_ h_ => o_move (v := v_l) e37_0 ⟨rfl, rfl⟩) ?_
          refine a_on 14 rfl (by kernel_rfl) 53 rfl rfl (fun w_ h_ => o_move (v := (.int .i64 (i : Int))) e37_9 ⟨rfl, rfl⟩) ?_
          obtain ⟨b90, o91, hc92, ho93⟩ := ix_exF laC_len Try.underlying66 ti71 h_l (by omega) hx53
          refine a_on 15 rfl (by kernel_rfl) 53 rfl rfl (fun w_ h_ => ho93 rfl rfl ⟨rfl, rfl⟩) ?_
          refine a_on 16 rfl (by kernel_rfl) 53 rfl rfl (fun w_ h_ => o_fieldAddr (k := o91 + 1) (fun _ => by kernel_rfl) rfl ⟨rfl, rfl⟩) ?_
          refine a_on 17 rfl (by kernel_rfl) 53 rfl rfl (fun w_ h_ => o_load1 (v := (.int .i64 x52.own)) Try.underlying3 rfl rfl h_ (seg_sub 1 rfl) (CellsAt.field (k := 1) (ds := [(.int .i64 x52.own)]) hc92 rfl) ⟨rfl, rfl⟩) ?_
          refine a_on 18 rfl (by kernel_rfl) 53 rfl rfl (fun w_ h_ => o_move (v := v_l) e37_0 ⟨rfl, rfl⟩) ?_
          refine a_on 19 rfl (by kernel_rfl) 53 rfl rfl (fun w_ h_ => o_move (v := (.int .i64 (i : Int))) e37_9 ⟨rfl, rfl⟩) ?_
          obtain ⟨b94, o95, hc96, ho97⟩ := ix_exF laC_len Try.underlying66 ti71 h_l (by omega) hx53
          refine a_on 20 rfl (by kernel_rfl) 53 rfl rfl (fun w_ h_ => ho97 rfl rfl ⟨rfl, rfl⟩) ?_
          refine a_on 21 rfl (by kernel_rfl) 53 rfl rfl (fun w_ h_ => o_fieldAddr (k := o95 + 2) (fun _ => by kernel_rfl) rfl ⟨rfl, rfl⟩) ?_
          refine a_on 22 rfl (by kernel_rfl) 53 rfl rfl (fun w_ h_ => o_load1 (v := (S x52.key)) Try.underlying9 rfl rfl h_ (seg_sub 1 rfl) (CellsAt.field (k := 2) (ds := [(S x52.key)]) hc96 rfl) ⟨rfl, rfl⟩) ?_
          have hH98 : Has E w89 [[Hp.one b30 (.cells #[v57, v60] 86 (0, 0))], R] := ((hH88.front 5 rfl).front 1 rfl).first 2 rfl
          refine a_done (by kernel_rfl) hH98 ?_
          refine r_on 23 rfl (by kernel_rfl) 53 rfl rfl (o_callf (vs := #[(.pointer (some ⟨b23, 0, none⟩)), (.agg #[v57, v60]), (.int .i64 x52.own), (S x52.key)]) ca47 rfl (args4 rfl rfl rfl rfl) (looks14_c (v := (⟨doT (⟨t2⟩ : TabS).keys x52⟩ : TabS)) (H := ((doR hh ll x52).1)) (L := ((doR hh ll x52).2)) (owner := x52.own) (key := x52.key) hH88.all (hd64.rd.mono (seg_sub 4 rfl)) (ho59.sl.mono (seg_sub 2 rfl)) (ho62.sl.mono (seg_sub 3 rfl)) hr68 ((hb69).mono (by omega)) (by omega)) ?_)
          rintro _ w101 ⟨rfl, hX99⟩
          refine ⟨_, rfl, ?_⟩
          have hH100 := hX99.of_all
          refine r_on 24 rfl (by kernel_rfl) 53 rfl rfl (o_not rfl ?_)
          refine r_op 25 rfl (by kernel_rfl) (o_pick_f (u := (.bool false)) rfl rfl ?_)
          refine Rest.done (by kernel_rfl) ?_
          refine t_norm (hK84 _ _ ?_)
          refine c_false rfl rfl ?_
          refine wp_skip ?_
          refine b_norm ?_
          refine t_norm (hK46 _ _ ?_)
          refine c_region ?_
          refine s_op (o_move (v := (.int .i64 (i : Int))) e37_9 ?_)
          refine s_op (o_add (a := (i : Int)) (b := 1) rfl rfl (w64 (by omega) (by omega)) ?_)
          refine s_op (o_assign (v := (.int .i64 ((i : Int) + 1))) rfl ?_)
          refine s_nil ?_
          have hH102 : Has E w101 [s58, s61, [Hp.one b30 (.cells #[v57, v60] 86 (0, 0))], sg63, R] := (((((hH100.front 5 rfl).front 5 rfl).front 2 rfl).front 5 rfl).front 5 rfl).first 5 rfl
          refine t_norm ⟨l.length - (i + 1), _, rfl, ?_, ?_⟩
          · omega
          · exact ⟨(i + 1), (doT (⟨t2⟩ : TabS).keys x52), sg63, v57, s58, ((doR hh ll x52).1), v60, s61, ((doR hh ll x52).2), rfl, hH102, (by omega), (hd64), ((hb69).mono (by omega)), (hs70), (hd71), (ho59), (ho62), (hr68), (by omega), e37_0, e37_1, e37_2, e37_7, e37_8, rfl, e37_22⟩
        · -- first operation 10
          have hH103 : Has E { w40 with drawn := w40.drawn + 1 } [[Hp.one b30 (.cells #[vh, vl] 86 (0, 0))], R] := ((hH48.front 4 rfl).front 3 rfl).first 2 rfl
          refine ok_w 10 rfl (o_alloc (cs := #[(.slice none 0 0), (.slice none 0 0)]) ti86 rfl hH48 fun b104 w105 hH106 => ?_)
          have hH107 : Has E w105 [[Hp.one b30 (.cells #[vh, vl] 86 (0, 0))], R] := ((hH106.front 5 rfl).front 4 rfl).first 2 rfl
          obtain ⟨hfa_, hfb_⟩ := hfine.2 _ (List.mem_of_getElem? hx53)
          refine a_w 6 rfl (by kernel_rfl) hH107 (o_callf (vs := #[(.pointer (some ⟨b23, 0, none⟩)), (.agg #[vh, vl]), (.agg #[(.int .i64 x52.kind), (.int .i64 x52.own), (S x52.key), (.bool x52.wr), x52.mv])]) ca46 rfl (args3 rfl rfl rfl) (does14_c (v := (⟨t2⟩ : TabS)) (H := hh) (L := ll) (a := x52) (((hH106.front 2 rfl).front 2 rfl).front 4 rfl).all3 ht2 hoh hol ((hok _ (List.mem_of_getElem? hx53)).mono (seg_sub 2 rfl)) hr2 ((hb2).mono (by omega)) (by omega) (by omega) (by omega)) ?_)
          rintro _ w118 ⟨v108, s109, v111, s112, sg114, rfl, ho110, ho113, hd115, hX116⟩
          refine ⟨_, rfl, ?_⟩
          have hH117 : Has E w118 [s109, s112, sg114, [Hp.one b104 (.cells #[(.slice none 0 0), (.slice none 0 0)] 86 (0, 0))], [Hp.one b30 (.cells #[vh, vl] 86 (0, 0))], R] := hX116.of_all3
          have hr119 := (hr2).does x52
          have hb120 := (hb2).does hr2 (a := x52) (by omega)
          have hs121 := hr119.ok
          have hd122 := hr119.nd
          have hz123 := does_len (H := hh) (L := ll) (a := x52)
          refine a_op 7 rfl (by kernel_rfl) (fun w_ h_ => o_move (v := (.tuple #[(.agg #[v108, v111]), (.bool true)])) rfl ⟨rfl, rfl⟩) ?_
          refine a_op 8 rfl (by kernel_rfl) (fun w_ h_ => o_extract (v := (.agg #[v108, v111])) rfl rfl ⟨rfl, rfl⟩) ?_
          refine a_op 9 rfl (by kernel_rfl) (fun w_ h_ => o_extract (v := (.bool true)) rfl rfl ⟨rfl, rfl⟩) ?_
          have hH124 : Has E w118 [[Hp.one b30 (.cells #[vh, vl] 86 (0, 0))], R] := ((hH117.front 5 rfl).front 5 rfl).first 2 rfl
          refine a_we 11 rfl (by kernel_rfl) hH124 (o_storeN (vs := [v108, v111]) (c' := #[v108, v111]) ti86 rfl rfl rfl rfl (by intro u hu; simp only [List.mem_cons, List.not_mem_nil, or_false] at hu; rcases hu with rfl | rfl <;> first | rfl | exact ho110.one | exact ho113.one) (by simp) (by kernel_rfl) (hH117.front 3 rfl) fun w125 hH126 => ?_)
          have hH127 : Has E w125 [[Hp.one b30 (.cells #[vh, vl] 86 (0, 0))], R] := ((hH126.front 5 rfl).front 5 rfl).first 2 rfl
          refine a_done (by kernel_rfl) hH127 ?_
          refine r_op 12 rfl (by kernel_rfl) (o_assign (v := (.bool true)) rfl ?_)
          refine Rest.done (by kernel_rfl) ?_
          refine t_norm (hK47 _ _ ?_)
          refine wp_seq_k fun K128 hK128 => ?_
          refine c_region ?_
          refine s_op (o_loadN (cs := [v108, v111]) Try.underlying86 rfl ti86 rfl hH126 (seg_sub 0 rfl) (CellsAt.one rfl) ?_)
          refine s_eff (o_storeN (vs := [v108, v111]) (c' := #[v108, v111]) ti86 e37_8 rfl rfl rfl (by intro u hu; simp only [List.mem_cons, List.not_mem_nil, or_false] at hu; rcases hu with rfl | rfl <;> first | rfl | exact ho110.one | exact ho113.one) (by simp) (by kernel_rfl) (hH126.front 4 rfl) fun w129 hH130 => ?_)
          refine s_nil ?_
          refine t_norm (hK128 _ _ ?_)
          refine wp_seq_k fun K131 hK131 => ?_
          refine Rest.region mixed (by kernel_rfl) ?_
          have hH132 : Has E { w129 with drawn := w129.drawn + 1 } [[Hp.one b30 (.cells #[v108, v111] 86 (0, 0))], [Hp.one b104 (.cells #[v108, v111] 86 (0, 0))], s109, s112, sg114, R] := Has0.drew hH130 _
          refine r_op 0 rfl (by kernel_rfl) (o_move (v := (.bool true)) rfl ?_)
          refine r_op 1 rfl (by kernel_rfl) (o_not rfl ?_)
          refine r_op 2 rfl (by kernel_rfl) (o_move (v := (.bool false)) rfl ?_)
          refine Rest.phaseA (fun w_ => Has E w_ [[Hp.one b30 (.cells #[v108, v111] 86 (0, 0))]]) 3 7 4 rfl (by decide) (by kernel_rfl) ?_
          refine a_on 3 rfl (by kernel_rfl) 45 rfl rfl (fun w_ h_ => o_move (v := (.pointer (some ⟨b23, 0, none⟩))) e37_7 ⟨rfl, rfl⟩) ?_
          refine a_on 4 rfl (by kernel_rfl) 45 rfl rfl (fun w_ h_ => o_loadN (cs := [v108, v111]) Try.underlying86 rfl ti86 e37_8 h_ (seg_sub 0 rfl) (CellsAt.one rfl) ⟨rfl, rfl⟩) ?_
          refine a_on 5 rfl (by kernel_rfl) 45 rfl rfl (fun w_ h_ => o_move (v := (.int .i64 owner)) e37_1 ⟨rfl, rfl⟩) ?_
          refine a_on 6 rfl (by kernel_rfl) 45 rfl rfl (fun w_ h_ => o_move (v := (S key)) e37_2 ⟨rfl, rfl⟩) ?_
          have hH133 : Has E { w129 with drawn := w129.drawn + 1 } [[Hp.one b30 (.cells #[v108, v111] 86 (0, 0))]] := hH132.first 1 rfl
          refine a_done (by kernel_rfl) hH133 ?_
          refine r_on 7 rfl (by kernel_rfl) 45 rfl rfl (o_callf (vs := #[(.pointer (some ⟨b23, 0, none⟩)), (.agg #[v108, v111]), (.int .i64 owner), (S key)]) ca47 rfl (args4 rfl rfl rfl rfl) (looks14_c (v := (⟨doT (⟨t2⟩ : TabS).keys x52⟩ : TabS)) (H := ((doR hh ll x52).1)) (L := ((doR hh ll x52).2)) (owner := owner) (key := key) hH132.all (hd115.rd.mono (seg_sub 4 rfl)) (ho110.sl.mono (seg_sub 2 rfl)) (ho113.sl.mono (seg_sub 3 rfl)) hr119 ((hb120).mono (by omega)) (by omega)) ?_)
          rintro _ w136 ⟨rfl, hX134⟩
          refine ⟨_, rfl, ?_⟩
          have hH135 := hX134.of_all
          refine r_on 8 rfl (by kernel_rfl) 45 rfl rfl (o_not rfl ?_)
          refine r_op 9 rfl (by kernel_rfl) (o_pick_f (u := (.bool false)) rfl rfl ?_)
          refine r_op 10 rfl (by kernel_rfl) (o_move (v := (.bool false)) rfl ?_)
          refine Rest.phaseA (fun w_ => Has E w_ [[Hp.one b30 (.cells #[v108, v111] 86 (0, 0))], R]) 11 23 12 rfl (by decide) (by kernel_rfl) ?_
          refine a_on 11 rfl (by kernel_rfl) 53 rfl rfl (fun w_ h_ => o_move (v := (.pointer (some ⟨b23, 0, none⟩))) e37_7 ⟨rfl, rfl⟩) ?_
          refine a_on 12 rfl (by kernel_rfl) 53 rfl rfl (fun w_ h_ => o_loadN (cs := [v108, v111]) Try.underlying86 rfl ti86 e37_8 h_ (seg_sub 0 rfl) (CellsAt.one rfl) ⟨rfl, rfl⟩) ?_
          refine a_on 13 rfl (by kernel_rfl) 53 rfl rfl (fun w_ h_ => o_move (v := v_l) e37_0 ⟨rfl, rfl⟩) ?_
          refine a_on 14 rfl (by kernel_rfl) 53 rfl rfl (fun w_ h_ => o_move (v := (.int .i64 (i : Int))) e37_9 ⟨rfl, rfl⟩) ?_
          obtain ⟨b137, o138, hc139, ho140⟩ := ix_exF laC_len Try.underlying66 ti71 h_l (by omega) hx53
          refine a_on 15 rfl (by kernel_rfl) 53 rfl rfl (fun w_ h_ => ho140 rfl rfl ⟨rfl, rfl⟩) ?_
          refine a_on 16 rfl (by kernel_rfl) 53 rfl rfl (fun w_ h_ => o_fieldAddr (k := o138 + 1) (fun _ => by kernel_rfl) rfl ⟨rfl, rfl⟩) ?_
          refine a_on 17 rfl (by kernel_rfl) 53 rfl rfl (fun w_ h_ => o_load1 (v := (.int .i64 x52.own)) Try.underlying3 rfl rfl h_ (seg_sub 1 rfl) (CellsAt.field (k := 1) (ds := [(.int .i64 x52.own)]) hc139 rfl) ⟨rfl, rfl⟩) ?_
          refine a_on 18 rfl (by kernel_rfl) 53 rfl rfl (fun w_ h_ => o_move (v := v_l) e37_0 ⟨rfl, rfl⟩) ?_
          refine a_on 19 rfl (by kernel_rfl) 53 rfl rfl (fun w_ h_ => o_move (v := (.int .i64 (i : Int))) e37_9 ⟨rfl, rfl⟩) ?_
          obtain ⟨b141, o142, hc143, ho144⟩ := ix_exF laC_len Try.underlying66 ti71 h_l (by omega) hx53
          refine a_on 20 rfl (by kernel_rfl) 53 rfl rfl (fun w_ h_ => ho144 rfl rfl ⟨rfl, rfl⟩) ?_
          refine a_on 21 rfl (by kernel_rfl) 53 rfl rfl (fun w_ h_ => o_fieldAddr (k := o142 + 2) (fun _ => by kernel_rfl) rfl ⟨rfl, rfl⟩) ?_
          refine a_on 22 rfl (by kernel_rfl) 53 rfl rfl (fun w_ h_ => o_load1 (v := (S x52.key)) Try.underlying9 rfl rfl h_ (seg_sub 1 rfl) (CellsAt.field (k := 2) (ds := [(S x52.key)]) hc143 rfl) ⟨rfl, rfl⟩) ?_
          have hH145 : Has E w136 [[Hp.one b30 (.cells #[v108, v111] 86 (0, 0))], R] := ((hH135.front 5 rfl).front 1 rfl).first 2 rfl
          refine a_done (by kernel_rfl) hH145 ?_
          refine r_on 23 rfl (by kernel_rfl) 53 rfl rfl (o_callf (vs := #[(.pointer (some ⟨b23, 0, none⟩)), (.agg #[v108, v111]), (.int .i64 x52.own), (S x52.key)]) ca47 rfl (args4 rfl rfl rfl rfl) (looks14_c (v := (⟨doT (⟨t2⟩ : TabS).keys x52⟩ : TabS)) (H := ((doR hh ll x52).1)) (L := ((doR hh ll x52).2)) (owner := x52.own) (key := x52.key) hH135.all (hd115.rd.mono (seg_sub 4 rfl)) (ho110.sl.mono (seg_sub 2 rfl)) (ho113.sl.mono (seg_sub 3 rfl)) hr119 ((hb120).mono (by omega)) (by omega)) ?_)
          rintro _ w148 ⟨rfl, hX146⟩
          refine ⟨_, rfl, ?_⟩
          have hH147 := hX146.of_all
          refine r_on 24 rfl (by kernel_rfl) 53 rfl rfl (o_not rfl ?_)
          refine r_op 25 rfl (by kernel_rfl) (o_pick_f (u := (.bool false)) rfl rfl ?_)
          refine Rest.done (by kernel_rfl) ?_
          refine t_norm (hK131 _ _ ?_)
          refine c_false rfl rfl ?_
          refine wp_skip ?_
          refine b_norm ?_
          refine t_norm (hK46 _ _ ?_)
          refine c_region ?_
          refine s_op (o_move (v := (.int .i64 (i : Int))) e37_9 ?_)
          refine s_op (o_add (a := (i : Int)) (b := 1) rfl rfl (w64 (by omega) (by omega)) ?_)
          refine s_op (o_assign (v := (.int .i64 ((i : Int) + 1))) rfl ?_)
          refine s_nil ?_
          have hH149 : Has E w148 [s109, s112, [Hp.one b30 (.cells #[v108, v111] 86 (0, 0))], sg114, R] := (((((hH147.front 5 rfl).front 5 rfl).front 2 rfl).front 5 rfl).front 5 rfl).first 5 rfl
          refine t_norm ⟨l.length - (i + 1), _, rfl, ?_, ?_⟩
          · omega
          · exact ⟨(i + 1), (doT (⟨t2⟩ : TabS).keys x52), sg114, v108, s109, ((doR hh ll x52).1), v111, s112, ((doR hh ll x52).2), rfl, hH149, (by omega), (hd115), ((hb120).mono (by omega)), (hs121), (hd122), (ho110), (ho113), (hr119), (by omega), e37_0, e37_1, e37_2, e37_7, e37_8, rfl, e37_22⟩
      · -- not: (i : Int) < ((l.length : Nat) : Int)
        refine wp_exit ?_
        refine t_exit (t_exit (x_in (?_)))
        refine t_norm (hK35 _ _ ?_)
        refine wp_seq_k fun K150 hK150 => ?_
        refine c_region ?_
        refine s_op (o_assign (v := (.bool true)) rfl ?_)
        refine s_nil ?_
        refine t_norm (hK150 _ _ ?_)
        refine wp_ret ?_
        refine c_ret1 Try.results8  (v := (.bool true)) rfl ?_
        have hH151 : Has E w40 [R] := (hH41.front 4 rfl).first 1 rfl
        exact ⟨by first | rfl | simp, hH151⟩
end Go.Q
namespace Go.Q
section
variable {H : Type} {enc : TypeId × Value → H} {P : Program} {w : World} {t e : TypeId} {cs : List Value}
/-- These cells read as a value of the type. -/
def Rd (enc : TypeId × Value → H) (P : Program) (w : World) (t : TypeId) (cs : List Value) : Prop := ∃ fuel x, DataW.trod enc P w 0 (fun _ => true) true fuel t cs = some x
theorem rd_of {v : Value} {d : DataW H} {ps : List MemPlace} (h : DataW.Trod enc P w 0 (fun _ => true) true t v d ps) : Rd enc P w t v.cells.toList := ⟨h.choose, _, h.choose_spec⟩
theorem rd_int {k : IntKind} (ht : P.underlying t = some (.int k)) (h : Rd enc P w t cs) : ∃ n, cs = [.int k n] ∧ (Lit.int k n).wf = true := by
  obtain ⟨f, x, h⟩ := h
  obtain ⟨n, h1, _, h2⟩ := DataW.trod_int ht h
  exact ⟨n, h1, h2⟩
theorem rd_i64 (ht : P.underlying t = some (.int .i64)) (h : Rd enc P w t cs) : ∃ n, cs = [iV n] ∧ (-9223372036854775808 : Int) ≤ n ∧ n ≤ 9223372036854775807 := by
  obtain ⟨n, h1, h2⟩ := rd_int ht h
  exact ⟨n, h1, wf_i64 h2⟩
theorem rd_string (ht : P.underlying t = some .string) (h : Rd enc P w t cs) : ∃ l : List UInt8, cs = [S l] ∧ l.length ≤ 9223372036854775807 := by
  obtain ⟨f, x, h⟩ := h
  obtain ⟨s, h1, _, h2⟩ := DataW.trod_string ht h
  exact ⟨s.data.toList, by rw [h1, S_of], by rw [show maxLen = 9223372036854775807 from rfl] at h2; exact h2⟩
theorem rd_bool (ht : P.underlying t = some .bool) (h : Rd enc P w t cs) : ∃ b, cs = [.bool b] := by
  obtain ⟨f, x, h⟩ := h
  cases f with
  | zero => simp [DataW.trod] at h
  | succ m =>
    unfold DataW.trod at h
    rw [ht] at h
    split at h <;> simp_all
theorem rd_struct {fs : Array Field} (ht : P.underlying t = some (.struct fs)) (h : Rd enc P w t cs) :
    cs.length = P.cellsOf t ∧ ∀ (i : Nat) (f : Field), fs[i]? = some f → Rd enc P w f.type ((cs.drop f.offset).take (P.cellsOf f.type)) := by
  obtain ⟨f, x, h⟩ := h
  obtain ⟨xs, n, _, _, h1, h2, h3⟩ := DataW.trod_struct ht h
  refine ⟨h1, fun i f hf => ?_⟩
  have hi : i < xs.length := by rw [h2]; exact (Array.getElem?_eq_some_iff.1 hf).1
  exact ⟨n, xs[i], by rw [h3 i f hf, List.getElem?_eq_getElem hi]⟩
theorem rd_field {fs : Array Field} {i k : Nat} {f : Field} {T : TypeId} {ds : List Value} (hf : ∀ (i : Nat) (f : Field), fs[i]? = some f → Rd enc P w f.type ((cs.drop f.offset).take (P.cellsOf f.type)))
    (h : fs[i]? = some f) (hT : f.type = T) (hc : P.cellsOf T = k) (hd : (cs.drop f.offset).take k = ds) : Rd enc P w T ds := by
  have g := hf i f h
  rw [hT, hc, hd] at g
  exact g
theorem rd_slice (ht : P.underlying t = some (.slice e)) (h : Rd enc P w t cs) :
    cs = [.slice none 0 0] ∨ ∃ a len cap, cs = [.slice (some a) len cap] ∧ len ≤ cap ∧ cap ≤ 9223372036854775807 ∧
      ∀ i, i < len → ∃ r : List Value, r.length = P.cellsOf e ∧ Rd enc P w e r ∧ ∀ j, j < P.cellsOf e → w.cell? (a.add (i * P.cellsOf e + j)) = r[j]? := by
  obtain ⟨f, x, h⟩ := h
  rcases DataW.trod_slice ht h with ⟨h, _⟩ | ⟨a, len, cap, elems, rest, n, _, h1, _, _, h2, h3, h4, h5, _⟩
  · exact .inl h
  · refine .inr ⟨a, len, cap, h1, h2, by simpa [maxLen] using h3, fun i hi => ?_⟩
    have hb := h5 i hi
    rw [List.getElem?_eq_getElem (by omega)] at hb
    obtain ⟨r, hr, hd⟩ := Option.bind_eq_some_iff.1 hb
    obtain ⟨_, g1, g2⟩ := World.cells?_some hr
    refine ⟨r, g1, ⟨n, _, hd⟩, fun j hj => ?_⟩
    rw [← g2 j hj, Addr.add_add]
/-- A row, by how its elements read. -/
theorem rd_rows {α : Type} {f : α → List Value} {Good : α → Prop} {sz : Nat} (ht : P.underlying t = some (.slice e)) (hc : P.cellsOf e = sz) (h0 : 0 < sz) (hf : ∀ a, (f a).length = sz)
    (each : ∀ r, Rd enc P w e r → ∃ a, r = f a ∧ Good a) (h : Rd enc P w t cs) : ∃ (v : Value) (l : List α), cs = [v] ∧ Sl [Hp.of w] sz v l.length (l.flatMap f) ∧ ∀ a ∈ l, Good a := by
  subst hc
  rcases rd_slice ht h with rfl | ⟨a, len, cap, rfl, h1, h2, h3⟩
  · exact ⟨_, [], rfl, ⟨none, 0, rfl, Nat.le_refl _, by omega, by simp, fun g => by simp at g⟩, fun a ha => by cases ha⟩
  · have key : ∀ k, k ≤ len → ∃ l : List α, l.length = k ∧ (∀ a ∈ l, Good a) ∧ ∀ i v, (l.flatMap f)[i]? = some v → w.cell? (a.add i) = some v := by
      intro k
      induction k with
      | zero => intro _; exact ⟨[], rfl, fun a ha => (by cases ha), fun i v hv => by simp at hv⟩
      | succ k ih =>
        intro hk
        obtain ⟨l, hl, hg, hcell⟩ := ih (by omega)
        obtain ⟨r, hr, hd, hrc⟩ := h3 k (by omega)
        obtain ⟨y, rfl, hy⟩ := each r hd
        refine ⟨l ++ [y], by simp [hl], fun a ha => ?_, fun i v hv => ?_⟩
        · rcases List.mem_append.1 ha with g | g
          · exact hg a g
          · rw [List.mem_singleton.1 g]; exact hy
        · rw [List.flatMap_append, List.flatMap_cons, List.flatMap_nil, List.append_nil] at hv
          have hlen := flat_len hf l
          rcases Nat.lt_or_ge i (l.flatMap f).length with g | g
          · rw [List.getElem?_append_left g] at hv; exact hcell i v hv
          · rw [List.getElem?_append_right g] at hv
            have hj : i - (l.flatMap f).length < P.cellsOf e := by rw [← hr]; exact (List.getElem?_eq_some_iff.1 hv).1
            have := hrc (i - (l.flatMap f).length) hj
            rw [hv] at this
            rw [← this]; congr 2
            rw [hlen, hl] at g hj ⊢; omega
    obtain ⟨l, hl, hg, hcell⟩ := key len (Nat.le_refl _)
    refine ⟨_, l, rfl, ⟨some a, cap, by rw [hl], by omega, h2, flat_len hf l, fun g => ?_⟩, hg⟩
    obtain ⟨b, off, rfl, hc⟩ := cells_row (w := w) (x := a) (vs := l.flatMap f) (by rw [flat_len hf l]; exact Nat.mul_pos g h0) hcell
    exact ⟨b, off, rfl, hc⟩
theorem flat_one {α : Type} (f : α → Value) : ∀ l : List α, l.flatMap (fun a => [f a]) = l.map f
  | [] => rfl
  | a :: l => by rw [List.flatMap_cons, flat_one f l]; rfl
theorem rd_row1 {α : Type} {f : α → Value} {Good : α → Prop} (ht : P.underlying t = some (.slice e)) (hc : P.cellsOf e = 1)
    (each : ∀ r, Rd enc P w e r → ∃ a, r = [f a] ∧ Good a) (h : Rd enc P w t cs) : ∃ (v : Value) (l : List α), cs = [v] ∧ Sl [Hp.of w] 1 v l.length (l.map f) ∧ ∀ a ∈ l, Good a := by
  obtain ⟨v, l, h1, h2, h3⟩ := rd_rows (f := fun a => [f a]) ht hc (by omega) (fun _ => rfl) each h
  exact ⟨v, l, h1, by rw [flat_one] at h2; exact h2, h3⟩
/-- bounds of an int -/
def I64 (n : Int) : Prop := -9223372036854775808 ≤ n ∧ n ≤ 9223372036854775807
theorem rd_ints (ht : P.underlying t = some (.slice e)) (he : P.underlying e = some (.int .i64)) (hc : P.cellsOf e = 1) (h : Rd enc P w t cs) : ∃ (v : Value) (l : List Int), cs = [v] ∧ Ints [Hp.of w] v l ∧ ∀ a ∈ l, I64 a :=
  rd_row1 ht hc (fun r hr => rd_i64 he hr) h
theorem rd_strings (ht : P.underlying t = some (.slice e)) (he : P.underlying e = some .string) (hc : P.cellsOf e = 1) (h : Rd enc P w t cs) : ∃ (v : Value) (l : List (List UInt8)), cs = [v] ∧ Sl [Hp.of w] 1 v l.length (l.map S) ∧ ∀ a ∈ l, a.length ≤ 9223372036854775807 :=
  rd_row1 ht hc (fun r hr => rd_string he hr) h
/-- a value of a type of one cell is its cell -/
theorem val_one {r : Reach} {b0 : Nat} {v u : Value} (hn : match P.underlying t with | some (.struct _) => False | some (.array _ _) => False | _ => True) (hval : Value.okWide P w r b0 t v) (h : v.cells.toList = [u]) : v = u := by
  cases v with
  | agg c =>
    unfold Value.okWide at hval
    cases hu : P.underlying t with
    | none => rw [hu] at hval; simp [Cell.okWide, Cell.ok, hu] at hval
    | some d => rw [hu] at hn hval; cases d <;> first | exact hn.elim | (simp [Cell.okWide, Cell.ok, hu] at hval)
  | _ => simpa [Value.cells] using h
end
end Go.Q
namespace Go.Q
open Go.Proofs
set_option linter.unusedVariables false
set_option maxRecDepth 100000
attribute [local irreducible] wpList OK Code.wp
theorem rd_lact {H : Type} {enc : TypeId × Value → H} {w : World} {cs : List Value} (h : Rd enc Try.prog w 71 cs) : ∃ a : LAct, cs = laC a ∧ LaOk [Hp.of w] a := by
  obtain ⟨hl, hf⟩ := rd_struct Try.underlying71 h
  have hl : cs.length = 5 := hl.trans (by kernel_rfl)
  obtain ⟨c0, c1, c2, c3, c4, rfl⟩ : ∃ c0 c1 c2 c3 c4, cs = [c0, c1, c2, c3, c4] := by
    match cs, hl with
    | [c0, c1, c2, c3, c4], _ => exact ⟨c0, c1, c2, c3, c4, rfl⟩
  have f0 : Rd enc Try.prog w 3 [c0] := rd_field (i := 0) (k := 1) hf rfl rfl (by kernel_rfl) rfl
  obtain ⟨n0, e0, b0⟩ := rd_i64 Try.underlying3 f0
  obtain rfl := (List.cons.inj e0).1
  have f1 : Rd enc Try.prog w 3 [c1] := rd_field (i := 1) (k := 1) hf rfl rfl (by kernel_rfl) rfl
  obtain ⟨n1, e1, b1⟩ := rd_i64 Try.underlying3 f1
  obtain rfl := (List.cons.inj e1).1
  have f2 : Rd enc Try.prog w 9 [c2] := rd_field (i := 2) (k := 1) hf rfl rfl (by kernel_rfl) rfl
  obtain ⟨n2, e2, b2⟩ := rd_string Try.underlying9 f2
  obtain rfl := (List.cons.inj e2).1
  have f3 : Rd enc Try.prog w 4 [c3] := rd_field (i := 3) (k := 1) hf rfl rfl (by kernel_rfl) rfl
  obtain ⟨n3, e3⟩ := rd_bool Try.underlying4 f3
  obtain rfl := (List.cons.inj e3).1
  have f4 : Rd enc Try.prog w 54 [c4] := rd_field (i := 4) (k := 1) hf rfl rfl (by kernel_rfl) rfl
  obtain ⟨u4, n4, e4, s4, b4⟩ := rd_ints Try.underlying54 Try.underlying3 (by kernel_rfl) f4
  obtain rfl := (List.cons.inj e4).1
  exact ⟨⟨n0, n1, n2, n3, _, n4⟩, rfl, s4⟩
theorem rd_lacts {H : Type} {enc : TypeId × Value → H} {w : World} {cs : List Value} (h : Rd enc Try.prog w 66 cs) : ∃ (v : Value) (l : List LAct), cs = [v] ∧ Sl [Hp.of w] 5 v l.length (l.flatMap laC) ∧ ∀ a ∈ l, LaOk [Hp.of w] a :=
  rd_rows Try.underlying66 (by kernel_rfl) (by decide) laC_len (fun r hr => rd_lact hr) h
end Go.Q
