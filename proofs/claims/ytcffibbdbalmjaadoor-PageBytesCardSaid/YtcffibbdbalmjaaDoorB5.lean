/-
  Parts of a walk: what functions of the program compute, each told by a theorem (QDp7, QDp8, QCut, QDp3, QDp4, QDp5, QPageL, QPageW, QDL1, QDSh2, QPageK, QDp13).
-/
import Derived.Test.YtcffibbdbalmjaaDoorB4
import Derived.Shelf.SortM.Plain
import Derived.Shelf.SortM.SortNone
import Derived.Shelf.Slices.CompactS
import Derived.Sort.OwnSorted
set_option linter.unusedVariables false
set_option linter.unusedSimpArgs false
set_option linter.unnecessarySimpa false
namespace Go.Q
open Go.Proofs
set_option linter.unusedVariables false
set_option maxRecDepth 100000
attribute [local irreducible] wpList OK Code.wp
set_option maxHeartbeats 4000000 in
theorem r11put_c {E w : World} {R : List Hp} {no : Int} {gsn : Int} {v_l : Value} {l : List Cel} {key : Bs} {v : Bool × Bs} {g : Int}  (hH : Has E w [R]) (h_l : Sl R 2 v_l l.length (l.flatMap ceC)) (hn : l.length ≤ 1000) :
    Calls Tryd.prog 46 #[(.agg #[(.int .i64 no), (.int .i64 gsn), v_l]), (S key), (.agg #[(.bool v.1), (S v.2)]), (.int .i64 g)] w fun e w' => ∃ (v1' : Value) (s2' : List Hp), e = .returned (.agg #[(.int .i64 no), (.int .i64 g), v1']) ∧ (Own 45 2 v1' (putL key v.2 (!v.1) l).length ((putL key v.2 (!v.1) l).flatMap ceC) s2') ∧ Has E w' [s2', R] := by
  refine c_enter (args := [(.agg #[(.int .i64 no), (.int .i64 gsn), v_l]), (S key), (.agg #[(.bool v.1), (S v.2)]), (.int .i64 g)]) Tryd.func46 rfl Tryd.ntmps46 (by simp) ?_
  refine wp_seq_k fun K1 hK1 => ?_
  refine c_region ?_
  refine s_op (o_box (cs := #[(.int .i64 no), (.int .i64 gsn), v_l]) rfl rfl hH fun b2 w3 hH4 => ?_)
  refine s_op (o_box (cs := #[(.bool v.1), (S v.2)]) rfl rfl hH4 fun b5 w6 hH7 => ?_)
  refine s_op (o_alloc (cs := #[(.int .i64 0), (.int .i64 0), (.slice none 0 0)]) ti24 rfl hH7 fun b8 w9 hH10 => ?_)
  refine s_nil ?_
  refine t_norm (hK1 _ _ ?_)
  refine wp_seq_k fun K11 hK11 => ?_
  refine c_region ?_
  refine s_op (o_fieldAddr (k := 0) (fun _ => by kernel_rfl) rfl ?_)
  refine s_op (o_load1 (v := (.int .i64 no)) Tryd.underlying3 rfl rfl hH10 (seg_sub 2 rfl) (CellsAt.one rfl) ?_)
  refine s_op (o_move (v := (.int .i64 g)) rfl ?_)
  refine s_op (o_sight (v := (.agg #[(.int .i64 no), (.int .i64 g), (.slice none 0 0)])) (fun _ => by kernel_rfl) ?_)
  refine s_op (o_alloc (cs := #[(.int .i64 0), (.int .i64 0), (.slice none 0 0)]) ti24 rfl hH10 fun b12 w13 hH14 => ?_)
  refine s_eff (o_storeN (vs := [(.int .i64 no), (.int .i64 g), (.slice none 0 0)]) (c' := #[(.int .i64 no), (.int .i64 g), (.slice none 0 0)]) ti24 rfl rfl rfl rfl (by intro u hu; simp only [List.mem_cons, List.not_mem_nil, or_false] at hu; rcases hu with rfl | rfl | rfl <;> first | rfl) (by simp) (by kernel_rfl) (hH14.front 0 rfl) fun w15 hH16 => ?_)
  refine s_nil ?_
  refine t_norm (hK11 _ _ ?_)
  refine wp_seq_k fun K17 hK17 => ?_
  refine c_region ?_
  refine s_op (o_fieldAddr (k := 0) (fun _ => by kernel_rfl) rfl ?_)
  refine s_op (o_load1 (v := (.bool v.1)) Tryd.underlying4 rfl rfl hH16 (seg_sub 2 rfl) (CellsAt.one rfl) ?_)
  refine s_op (o_not rfl ?_)
  refine s_op (o_assign (v := (.bool (!v.1))) rfl ?_)
  refine s_nil ?_
  refine t_norm (hK17 _ _ ?_)
  refine wp_seq_k fun K18 hK18 => ?_
  refine wp_seq_k fun K19 hK19 => ?_
  refine c_region ?_
  refine s_op (o_assign (v := (.int .i64 0)) rfl ?_)
  refine s_nil ?_
  refine t_norm (hK19 _ _ ?_)
  refine wp_block ?_
  let I21 : Nat → (Nat → Value) → World → Prop := fun n__ r__ w__ => ∃ (k : Nat) (d : Bool) (vo : Value) (so : List Hp) (out : List Cel), n__ = l.length - k ∧ Has E w__ [so, [Hp.one b12 (.cells #[(.int .i64 no), (.int .i64 g), vo] 24 (0, 0))], [Hp.one b8 (.cells #[(.int .i64 0), (.int .i64 0), (.slice none 0 0)] 24 (0, 0))], [Hp.one b5 (.cells #[(.bool v.1), (S v.2)] 29 (0, 0))], [Hp.one b2 (.cells #[(.int .i64 no), (.int .i64 gsn), v_l] 24 (0, 0))], R] ∧ (k ≤ l.length) ∧ (Own 45 2 vo out.length (out.flatMap ceC) so) ∧ (out.length ≤ 2 * k) ∧ ((putL key v.2 (!v.1) l) = out ++ putL key v.2 d (l.drop k)) ∧ r__ 0 = (.agg #[(.int .i64 no), (.int .i64 gsn), v_l]) ∧ r__ 1 = (S key) ∧ r__ 2 = (.agg #[(.bool v.1), (S v.2)]) ∧ r__ 3 = (.int .i64 g) ∧ r__ 4 = (.pointer (some ⟨b2, 0, none⟩)) ∧ r__ 6 = (.pointer (some ⟨b5, 0, none⟩)) ∧ r__ 8 = (.pointer (some ⟨b8, 0, none⟩)) ∧ r__ 9 = (.pointer (some ⟨b12, 0, none⟩)) ∧ r__ 10 = (.bool d) ∧ r__ 11 = (.int .i64 (k : Int))
  have hH22 : Has E w15 [[], [Hp.one b12 (.cells #[(.int .i64 no), (.int .i64 g), (.slice none 0 0)] 24 (0, 0))], [Hp.one b8 (.cells #[(.int .i64 0), (.int .i64 0), (.slice none 0 0)] 24 (0, 0))], [Hp.one b5 (.cells #[(.bool v.1), (S v.2)] 29 (0, 0))], [Hp.one b2 (.cells #[(.int .i64 no), (.int .i64 gsn), v_l] 24 (0, 0))], R] := Has.pick (Has.nil hH16) [0, 0, 0, 0, 0, 0] (by kernel_rfl)
  refine c_loop I21 _ ⟨0, (!v.1), (.slice none 0 0), [], [], rfl, hH22, Nat.zero_le _, Own.nil 45 2, Nat.le_refl _, rfl, rfl, rfl, rfl, rfl, rfl, rfl, rfl, rfl, rfl, rfl⟩ ?_
  rintro n_ r25 w23 ⟨k, d, vo, so, out, rfl, hH24, hk, hoo, hol, hf, e20_0, e20_1, e20_2, e20_3, e20_4, e20_6, e20_8, e20_9, e20_10, e20_11⟩
  refine wp_seq_k fun K26 hK26 => ?_
  refine wp_seq_k fun K27 hK27 => ?_
  refine c_region ?_
  refine s_op (o_move (v := (.int .i64 (k : Int))) e20_11 ?_)
  refine s_op (o_fieldAddr (k := 2) (fun _ => by kernel_rfl) e20_4 ?_)
  refine s_op (o_load1 (v := v_l) Tryd.underlying22 rfl rfl hH24 (seg_sub 4 rfl) (CellsAt.one rfl) ?_)
  refine s_op (o_lenS Tryd.underlying22 rfl h_l ?_)
  refine s_op (o_lss (a := (k : Int)) (b := ((l.length : Nat) : Int)) rfl rfl ?_)
  refine s_nil ?_
  refine t_norm (hK27 _ _ ?_)
  refine c_cond rfl (fun h28 => ?_) (fun h28 => ?_)
  · -- (k : Int) < ((l.length : Nat) : Int)
    refine wp_skip ?_
    refine t_norm (hK26 _ _ ?_)
    refine wp_seq_k fun K29 hK29 => ?_
    refine wp_block ?_
    refine wp_seq_k fun K30 hK30 => ?_
    refine wp_seq_k fun K31 hK31 => ?_
    refine c_region ?_
    refine s_op (o_move (v := (.bool d)) e20_10 ?_)
    refine s_op (o_not rfl ?_)
    refine s_op (o_move (v := (.bool (!d))) rfl ?_)
    rcases Bool.eq_false_or_eq_true (!d) with h32 | h32
    · -- !d
      refine s_on 28 rfl (congrArg Value.bool h32) (o_fieldAddr (k := 2) (fun _ => by kernel_rfl) e20_4 ?_)
      refine s_on 28 rfl (congrArg Value.bool h32) (o_load1 (v := v_l) Tryd.underlying22 rfl rfl hH24 (seg_sub 4 rfl) (CellsAt.one rfl) ?_)
      refine s_on 28 rfl (congrArg Value.bool h32) (o_move (v := (.int .i64 (k : Int))) e20_11 ?_)
      obtain ⟨x36, hx37⟩ : ∃ x_, l[((k : Int)).toNat]? = some x_ := get_some (by omega)
      refine s_on 28 rfl (congrArg Value.bool h32) (o_indexF ceC_len Tryd.underlying22 ti45 rfl h_l rfl rfl (by omega) hx37 fun b33 o34 hc35 => ?_)
      refine s_on 28 rfl (congrArg Value.bool h32) (o_fieldAddr (k := o34) (fun _ => by kernel_rfl) rfl ?_)
      refine s_on 28 rfl (congrArg Value.bool h32) (o_load1 (v := (S x36.1)) Tryd.underlying9 rfl rfl hH24 (seg_sub 5 rfl) (CellsAt.field (k := 0) (ds := [(S x36.1)]) hc35 rfl) ?_)
      refine s_on 28 rfl (congrArg Value.bool h32) (o_move (v := (S key)) e20_1 ?_)
      refine s_on 28 rfl (congrArg Value.bool h32) (o_sgeP (a := x36.1) (b := key) rfl rfl ?_)
      refine s_op (o_pick_t (u := (.bool (decide (¬ (x36.1 < key))))) ((rfl : _ = _).trans (congrArg Value.bool h32)) rfl ?_)
      refine s_nil ?_
      refine t_norm (hK31 _ _ ?_)
      refine c_cond rfl (fun h38 => ?_) (fun h38 => ?_)
      · -- ¬ (x36.1 < key)
        refine wp_seq_k fun K39 hK39 => ?_
        refine c_region ?_
        refine s_op (o_fieldAddr (k := 2) (fun _ => by kernel_rfl) e20_9 ?_)
        refine s_op (o_load1 (v := vo) Tryd.underlying22 rfl rfl hH24 (seg_sub 1 rfl) (CellsAt.one rfl) ?_)
        refine s_op (o_move (v := (S key)) e20_1 ?_)
        refine s_op (o_fieldAddr (k := 1) (fun _ => by kernel_rfl) e20_6 ?_)
        refine s_op (o_load1 (v := (S v.2)) Tryd.underlying9 rfl rfl hH24 (seg_sub 3 rfl) (CellsAt.one rfl) ?_)
        refine s_op (o_sight (v := (.agg #[(S key), (S v.2)])) (fun _ => by kernel_rfl) ?_)
        refine s_op (o_buildSlice (ps := #[(0, (.agg #[(S key), (S v.2)]))]) (cells := #[(S key), (S v.2)]) Tryd.underlying22 ti45 (by decide) (parts1 rfl) (by kernel_rfl) hH24 fun b40 w41 hH42 => ?_)
        refine s_op (o_append Tryd.underlying22 ti45 rfl (by decide) rfl hoo rfl (sl_litF (f := ceC) (l := [((key, v.2) : Cel)]) ceC_len rfl rfl (by simp)) (hH42.front 1 rfl) (seg_sub 0 rfl) (one_ceC _) (by simp; omega) (by simp; omega) fun v43 s44 w46 ho45 hH47 => ?_)
        have ho45 : Own 45 2 v43 (out ++ [((key, v.2) : Cel)]).length ((out ++ [((key, v.2) : Cel)]).flatMap ceC) s44 := ho45.appF
        refine s_op (o_fieldAddr (k := 2) (fun _ => by kernel_rfl) e20_9 ?_)
        refine s_eff (o_store1 (c' := #[(.int .i64 no), (.int .i64 g), v43]) ti22 rfl rfl ho45.one (by simp) rfl (hH47.front 2 rfl) fun w48 hH49 => ?_)
        refine s_nil ?_
        refine t_norm (hK39 _ _ ?_)
        refine c_region ?_
        refine s_op (o_assign (v := (.bool true)) rfl ?_)
        refine s_nil ?_
        refine t_norm (hK30 _ _ ?_)
        refine wp_seq_k fun K50 hK50 => ?_
        refine c_region ?_
        refine s_op (o_fieldAddr (k := 2) (fun _ => by kernel_rfl) e20_4 ?_)
        refine s_op (o_load1 (v := v_l) Tryd.underlying22 rfl rfl hH49 (seg_sub 5 rfl) (CellsAt.one rfl) ?_)
        refine s_op (o_move (v := (.int .i64 (k : Int))) e20_11 ?_)
        refine s_op (o_indexF ceC_len Tryd.underlying22 ti45 rfl h_l rfl rfl (by omega) hx37 fun b51 o52 hc53 => ?_)
        refine s_op (o_fieldAddr (k := o52) (fun _ => by kernel_rfl) rfl ?_)
        refine s_op (o_load1 (v := (S x36.1)) Tryd.underlying9 rfl rfl hH49 (seg_sub 6 rfl) (CellsAt.field (k := 0) (ds := [(S x36.1)]) hc53 rfl) ?_)
        refine s_op (o_move (v := (S key)) e20_1 ?_)
        refine s_op (o_sneq (a := x36.1) (b := key) rfl rfl ?_)
        refine s_nil ?_
        refine t_norm (hK50 _ _ ?_)
        refine c_cond rfl (fun h54 => ?_) (fun h54 => ?_)
        · -- x36.1 ≠ key
          refine Rest.region mixed (by kernel_rfl) ?_
          have hH55 : Has E { w48 with drawn := w48.drawn + 1 } [[Hp.one b12 (.cells #[(.int .i64 no), (.int .i64 g), v43] 24 (0, 0))], s44, [Hp.one b40 (.cells #[(S key), (S v.2)] 45 (0, 0))], [Hp.one b8 (.cells #[(.int .i64 0), (.int .i64 0), (.slice none 0 0)] 24 (0, 0))], [Hp.one b5 (.cells #[(.bool v.1), (S v.2)] 29 (0, 0))], [Hp.one b2 (.cells #[(.int .i64 no), (.int .i64 gsn), v_l] 24 (0, 0))], R] := Has0.drew hH49 _
          refine Rest.phaseA (fun w_ => Has E w_ [[Hp.one b12 (.cells #[(.int .i64 no), (.int .i64 g), v43] 24 (0, 0))], [Hp.one b2 (.cells #[(.int .i64 no), (.int .i64 gsn), v_l] 24 (0, 0))], R]) 0 8 8 rfl (by decide) (by kernel_rfl) ?_
          refine a_op 0 rfl (by kernel_rfl) (fun w_ h_ => o_fieldAddr (k := 2) (fun _ => by kernel_rfl) e20_9 ⟨rfl, rfl⟩) ?_
          refine a_op 1 rfl (by kernel_rfl) (fun w_ h_ => o_load1 (v := v43) Tryd.underlying22 rfl rfl h_ (seg_sub 0 rfl) (CellsAt.one rfl) ⟨rfl, rfl⟩) ?_
          refine a_op 2 rfl (by kernel_rfl) (fun w_ h_ => o_fieldAddr (k := 2) (fun _ => by kernel_rfl) e20_4 ⟨rfl, rfl⟩) ?_
          refine a_op 3 rfl (by kernel_rfl) (fun w_ h_ => o_load1 (v := v_l) Tryd.underlying22 rfl rfl h_ (seg_sub 1 rfl) (CellsAt.one rfl) ⟨rfl, rfl⟩) ?_
          refine a_op 4 rfl (by kernel_rfl) (fun w_ h_ => o_move (v := (.int .i64 (k : Int))) e20_11 ⟨rfl, rfl⟩) ?_
          obtain ⟨b56, o57, hc58, ho59⟩ := ix_exF ceC_len Tryd.underlying22 ti45 h_l (by omega) hx37
          refine a_op 5 rfl (by kernel_rfl) (fun w_ h_ => ho59 rfl rfl ⟨rfl, rfl⟩) ?_
          refine a_op 6 rfl (by kernel_rfl) (fun w_ h_ => o_loadN (cs := [(S x36.1), (S x36.2)]) Tryd.underlying45 rfl ti45 rfl h_ (seg_sub 2 rfl) hc58 ⟨rfl, rfl⟩) ?_
          have hH60 : Has E { w48 with drawn := w48.drawn + 1 } [[Hp.one b12 (.cells #[(.int .i64 no), (.int .i64 g), v43] 24 (0, 0))], [Hp.one b2 (.cells #[(.int .i64 no), (.int .i64 gsn), v_l] 24 (0, 0))], R] := (((hH55.front 6 rfl).front 6 rfl).front 2 rfl).first 3 rfl
          refine a_w 7 rfl (by kernel_rfl) hH60 (o_buildSlice (ps := #[(0, (.agg #[(S x36.1), (S x36.2)]))]) (cells := #[(S x36.1), (S x36.2)]) Tryd.underlying22 ti45 (by decide) (parts1 rfl) (by kernel_rfl) hH55 fun b61 w62 hH63 => ?_)
          have hH64 : Has E w62 [[Hp.one b12 (.cells #[(.int .i64 no), (.int .i64 g), v43] 24 (0, 0))], [Hp.one b2 (.cells #[(.int .i64 no), (.int .i64 gsn), v_l] 24 (0, 0))], R] := (((hH63.front 7 rfl).front 7 rfl).front 3 rfl).first 3 rfl
          refine a_done (by kernel_rfl) hH64 ?_
          refine r_op 8 rfl (by kernel_rfl) (o_append Tryd.underlying22 ti45 rfl (by decide) rfl ho45 rfl (sl_litF (f := ceC) (l := [x36]) ceC_len rfl rfl (by simp)) (hH63.front 2 rfl) (seg_sub 0 rfl) (one_ceC _) (by simp; omega) (by simp; omega) fun v65 s66 w68 ho67 hH69 => ?_)
          have ho67 : Own 45 2 v65 ((out ++ [((key, v.2) : Cel)]) ++ [x36]).length (((out ++ [((key, v.2) : Cel)]) ++ [x36]).flatMap ceC) s66 := ho67.appF
          refine r_op 9 rfl (by kernel_rfl) (o_fieldAddr (k := 2) (fun _ => by kernel_rfl) e20_9 ?_)
          refine r_eff 10 rfl (by kernel_rfl) (o_store1 (c' := #[(.int .i64 no), (.int .i64 g), v65]) ti22 rfl rfl ho67.one (by simp) rfl (hH69.front 2 rfl) fun w70 hH71 => ?_)
          refine Rest.done (by kernel_rfl) ?_
          refine b_norm ?_
          refine t_norm (hK29 _ _ ?_)
          refine c_region ?_
          refine s_op (o_move (v := (.int .i64 (k : Int))) e20_11 ?_)
          refine s_op (o_add (a := (k : Int)) (b := 1) rfl rfl (w64 (by omega) (by omega)) ?_)
          refine s_op (o_assign (v := (.int .i64 ((k : Int) + 1))) rfl ?_)
          refine s_nil ?_
          have hH72 : Has E w70 [s66, [Hp.one b12 (.cells #[(.int .i64 no), (.int .i64 g), v65] 24 (0, 0))], [Hp.one b8 (.cells #[(.int .i64 0), (.int .i64 0), (.slice none 0 0)] 24 (0, 0))], [Hp.one b5 (.cells #[(.bool v.1), (S v.2)] 29 (0, 0))], [Hp.one b2 (.cells #[(.int .i64 no), (.int .i64 gsn), v_l] 24 (0, 0))], R] := Has.pick hH71 [1, 0, 2, 2, 2, 2] (by kernel_rfl)
          refine t_norm ⟨l.length - (k + 1), _, rfl, ?_, ?_⟩
          · omega
          · exact ⟨(k + 1), true, v65, s66, ((out ++ [((key, v.2) : Cel)]) ++ [x36]), rfl, hH72, (by omega), (ho67), (by first | omega | (simp only [List.length_append, List.length_cons, List.length_nil]; omega)), (by ((have h_ := putL_step hf (show l[k]? = some _ from hx37)); (have hd_ : d = false := by simpa using h32); (try subst hd_); (have hl_ : ¬ x36.1 < key := by simpa using h38); simpa [hl_, h54] using h_)), e20_0, e20_1, e20_2, e20_3, e20_4, e20_6, e20_8, e20_9, rfl, rfl⟩
        · -- not: x36.1 ≠ key
          refine wp_skip ?_
          refine b_norm ?_
          refine t_norm (hK29 _ _ ?_)
          refine c_region ?_
          refine s_op (o_move (v := (.int .i64 (k : Int))) e20_11 ?_)
          refine s_op (o_add (a := (k : Int)) (b := 1) rfl rfl (w64 (by omega) (by omega)) ?_)
          refine s_op (o_assign (v := (.int .i64 ((k : Int) + 1))) rfl ?_)
          refine s_nil ?_
          have hH73 : Has E w48 [s44, [Hp.one b12 (.cells #[(.int .i64 no), (.int .i64 g), v43] 24 (0, 0))], [Hp.one b8 (.cells #[(.int .i64 0), (.int .i64 0), (.slice none 0 0)] 24 (0, 0))], [Hp.one b5 (.cells #[(.bool v.1), (S v.2)] 29 (0, 0))], [Hp.one b2 (.cells #[(.int .i64 no), (.int .i64 gsn), v_l] 24 (0, 0))], R] := Has.pick hH49 [1, 0, 1, 1, 1, 1] (by kernel_rfl)
          refine t_norm ⟨l.length - (k + 1), _, rfl, ?_, ?_⟩
          · omega
          · exact ⟨(k + 1), true, v43, s44, (out ++ [((key, v.2) : Cel)]), rfl, hH73, (by omega), (ho45), (by first | omega | (simp only [List.length_append, List.length_cons, List.length_nil]; omega)), (by ((have h_ := putL_step hf (show l[k]? = some _ from hx37)); (have hd_ : d = false := by simpa using h32); (try subst hd_); (have hl_ : ¬ x36.1 < key := by simpa using h38); simpa [hl_, h54] using h_)), e20_0, e20_1, e20_2, e20_3, e20_4, e20_6, e20_8, e20_9, rfl, rfl⟩
      · -- not: ¬ (x36.1 < key)
        refine wp_skip ?_
        refine t_norm (hK30 _ _ ?_)
        refine wp_seq_k fun K74 hK74 => ?_
        refine c_region ?_
        refine s_op (o_fieldAddr (k := 2) (fun _ => by kernel_rfl) e20_4 ?_)
        refine s_op (o_load1 (v := v_l) Tryd.underlying22 rfl rfl hH24 (seg_sub 4 rfl) (CellsAt.one rfl) ?_)
        refine s_op (o_move (v := (.int .i64 (k : Int))) e20_11 ?_)
        refine s_op (o_indexF ceC_len Tryd.underlying22 ti45 rfl h_l rfl rfl (by omega) hx37 fun b75 o76 hc77 => ?_)
        refine s_op (o_fieldAddr (k := o76) (fun _ => by kernel_rfl) rfl ?_)
        refine s_op (o_load1 (v := (S x36.1)) Tryd.underlying9 rfl rfl hH24 (seg_sub 5 rfl) (CellsAt.field (k := 0) (ds := [(S x36.1)]) hc77 rfl) ?_)
        refine s_op (o_move (v := (S key)) e20_1 ?_)
        refine s_op (o_sneq (a := x36.1) (b := key) rfl rfl ?_)
        refine s_nil ?_
        refine t_norm (hK74 _ _ ?_)
        refine c_cond rfl (fun h78 => ?_) (fun h78 => ?_)
        · -- x36.1 ≠ key
          refine Rest.region mixed (by kernel_rfl) ?_
          have hH79 : Has E { w23 with drawn := w23.drawn + 1 } [so, [Hp.one b12 (.cells #[(.int .i64 no), (.int .i64 g), vo] 24 (0, 0))], [Hp.one b8 (.cells #[(.int .i64 0), (.int .i64 0), (.slice none 0 0)] 24 (0, 0))], [Hp.one b5 (.cells #[(.bool v.1), (S v.2)] 29 (0, 0))], [Hp.one b2 (.cells #[(.int .i64 no), (.int .i64 gsn), v_l] 24 (0, 0))], R] := Has0.drew hH24 _
          refine Rest.phaseA (fun w_ => Has E w_ [[Hp.one b12 (.cells #[(.int .i64 no), (.int .i64 g), vo] 24 (0, 0))], [Hp.one b2 (.cells #[(.int .i64 no), (.int .i64 gsn), v_l] 24 (0, 0))], R]) 0 8 8 rfl (by decide) (by kernel_rfl) ?_
          refine a_op 0 rfl (by kernel_rfl) (fun w_ h_ => o_fieldAddr (k := 2) (fun _ => by kernel_rfl) e20_9 ⟨rfl, rfl⟩) ?_
          refine a_op 1 rfl (by kernel_rfl) (fun w_ h_ => o_load1 (v := vo) Tryd.underlying22 rfl rfl h_ (seg_sub 0 rfl) (CellsAt.one rfl) ⟨rfl, rfl⟩) ?_
          refine a_op 2 rfl (by kernel_rfl) (fun w_ h_ => o_fieldAddr (k := 2) (fun _ => by kernel_rfl) e20_4 ⟨rfl, rfl⟩) ?_
          refine a_op 3 rfl (by kernel_rfl) (fun w_ h_ => o_load1 (v := v_l) Tryd.underlying22 rfl rfl h_ (seg_sub 1 rfl) (CellsAt.one rfl) ⟨rfl, rfl⟩) ?_
          refine a_op 4 rfl (by kernel_rfl) (fun w_ h_ => o_move (v := (.int .i64 (k : Int))) e20_11 ⟨rfl, rfl⟩) ?_
          obtain ⟨b80, o81, hc82, ho83⟩ := ix_exF ceC_len Tryd.underlying22 ti45 h_l (by omega) hx37
          refine a_op 5 rfl (by kernel_rfl) (fun w_ h_ => ho83 rfl rfl ⟨rfl, rfl⟩) ?_
          refine a_op 6 rfl (by kernel_rfl) (fun w_ h_ => o_loadN (cs := [(S x36.1), (S x36.2)]) Tryd.underlying45 rfl ti45 rfl h_ (seg_sub 2 rfl) hc82 ⟨rfl, rfl⟩) ?_
          have hH84 : Has E { w23 with drawn := w23.drawn + 1 } [[Hp.one b12 (.cells #[(.int .i64 no), (.int .i64 g), vo] 24 (0, 0))], [Hp.one b2 (.cells #[(.int .i64 no), (.int .i64 gsn), v_l] 24 (0, 0))], R] := (((hH79.front 5 rfl).front 5 rfl).front 3 rfl).first 3 rfl
          refine a_w 7 rfl (by kernel_rfl) hH84 (o_buildSlice (ps := #[(0, (.agg #[(S x36.1), (S x36.2)]))]) (cells := #[(S x36.1), (S x36.2)]) Tryd.underlying22 ti45 (by decide) (parts1 rfl) (by kernel_rfl) hH79 fun b85 w86 hH87 => ?_)
          have hH88 : Has E w86 [[Hp.one b12 (.cells #[(.int .i64 no), (.int .i64 g), vo] 24 (0, 0))], [Hp.one b2 (.cells #[(.int .i64 no), (.int .i64 gsn), v_l] 24 (0, 0))], R] := (((hH87.front 6 rfl).front 6 rfl).front 4 rfl).first 3 rfl
          refine a_done (by kernel_rfl) hH88 ?_
          refine r_op 8 rfl (by kernel_rfl) (o_append Tryd.underlying22 ti45 rfl (by decide) rfl hoo rfl (sl_litF (f := ceC) (l := [x36]) ceC_len rfl rfl (by simp)) (hH87.front 1 rfl) (seg_sub 0 rfl) (one_ceC _) (by simp; omega) (by simp; omega) fun v89 s90 w92 ho91 hH93 => ?_)
          have ho91 : Own 45 2 v89 (out ++ [x36]).length ((out ++ [x36]).flatMap ceC) s90 := ho91.appF
          refine r_op 9 rfl (by kernel_rfl) (o_fieldAddr (k := 2) (fun _ => by kernel_rfl) e20_9 ?_)
          refine r_eff 10 rfl (by kernel_rfl) (o_store1 (c' := #[(.int .i64 no), (.int .i64 g), v89]) ti22 rfl rfl ho91.one (by simp) rfl (hH93.front 2 rfl) fun w94 hH95 => ?_)
          refine Rest.done (by kernel_rfl) ?_
          refine b_norm ?_
          refine t_norm (hK29 _ _ ?_)
          refine c_region ?_
          refine s_op (o_move (v := (.int .i64 (k : Int))) e20_11 ?_)
          refine s_op (o_add (a := (k : Int)) (b := 1) rfl rfl (w64 (by omega) (by omega)) ?_)
          refine s_op (o_assign (v := (.int .i64 ((k : Int) + 1))) rfl ?_)
          refine s_nil ?_
          have hH96 : Has E w94 [s90, [Hp.one b12 (.cells #[(.int .i64 no), (.int .i64 g), v89] 24 (0, 0))], [Hp.one b8 (.cells #[(.int .i64 0), (.int .i64 0), (.slice none 0 0)] 24 (0, 0))], [Hp.one b5 (.cells #[(.bool v.1), (S v.2)] 29 (0, 0))], [Hp.one b2 (.cells #[(.int .i64 no), (.int .i64 gsn), v_l] 24 (0, 0))], R] := Has.pick hH95 [1, 0, 1, 1, 1, 1] (by kernel_rfl)
          refine t_norm ⟨l.length - (k + 1), _, rfl, ?_, ?_⟩
          · omega
          · exact ⟨(k + 1), d, v89, s90, (out ++ [x36]), rfl, hH96, (by omega), (ho91), (by first | omega | (simp only [List.length_append, List.length_cons, List.length_nil]; omega)), (by ((have h_ := putL_step hf (show l[k]? = some _ from hx37)); (have hd_ : d = false := by simpa using h32); (try subst hd_); (have hl_ : x36.1 < key := by simpa using h38); simpa [hl_, h78] using h_)), e20_0, e20_1, e20_2, e20_3, e20_4, e20_6, e20_8, e20_9, e20_10, rfl⟩
        · -- not: x36.1 ≠ key
          refine wp_skip ?_
          refine b_norm ?_
          refine t_norm (hK29 _ _ ?_)
          refine c_region ?_
          refine s_op (o_move (v := (.int .i64 (k : Int))) e20_11 ?_)
          refine s_op (o_add (a := (k : Int)) (b := 1) rfl rfl (w64 (by omega) (by omega)) ?_)
          refine s_op (o_assign (v := (.int .i64 ((k : Int) + 1))) rfl ?_)
          refine s_nil ?_
          refine t_norm ⟨l.length - (k + 1), _, rfl, ?_, ?_⟩
          · omega
          · exact ⟨(k + 1), d, vo, so, out, rfl, hH24, (by omega), (hoo), (by first | omega | (simp only [List.length_append, List.length_cons, List.length_nil]; omega)), (by ((have h_ := putL_step hf (show l[k]? = some _ from hx37)); (have hd_ : d = false := by simpa using h32); (try subst hd_); (have hl_ : x36.1 < key := by simpa using h38); simpa [hl_, h78] using h_)), e20_0, e20_1, e20_2, e20_3, e20_4, e20_6, e20_8, e20_9, e20_10, rfl⟩
    · -- not: !d
      refine s_off (b' := false) 28 rfl (congrArg Value.bool h32) rfl ?_
      refine s_off (b' := false) 28 rfl (congrArg Value.bool h32) rfl ?_
      refine s_off (b' := false) 28 rfl (congrArg Value.bool h32) rfl ?_
      refine s_off (b' := false) 28 rfl (congrArg Value.bool h32) rfl ?_
      refine s_off (b' := false) 28 rfl (congrArg Value.bool h32) rfl ?_
      refine s_off (b' := false) 28 rfl (congrArg Value.bool h32) rfl ?_
      refine s_off (b' := false) 28 rfl (congrArg Value.bool h32) rfl ?_
      refine s_off (b' := false) 28 rfl (congrArg Value.bool h32) rfl ?_
      refine s_op (o_pick_f (u := (.bool false)) ((rfl : _ = _).trans (congrArg Value.bool h32)) rfl ?_)
      refine s_nil ?_
      refine t_norm (hK31 _ _ ?_)
      refine c_false rfl rfl ?_
      refine wp_skip ?_
      refine t_norm (hK30 _ _ ?_)
      refine wp_seq_k fun K97 hK97 => ?_
      refine c_region ?_
      refine s_op (o_fieldAddr (k := 2) (fun _ => by kernel_rfl) e20_4 ?_)
      refine s_op (o_load1 (v := v_l) Tryd.underlying22 rfl rfl hH24 (seg_sub 4 rfl) (CellsAt.one rfl) ?_)
      refine s_op (o_move (v := (.int .i64 (k : Int))) e20_11 ?_)
      obtain ⟨x101, hx102⟩ : ∃ x_, l[((k : Int)).toNat]? = some x_ := get_some (by omega)
      refine s_op (o_indexF ceC_len Tryd.underlying22 ti45 rfl h_l rfl rfl (by omega) hx102 fun b98 o99 hc100 => ?_)
      refine s_op (o_fieldAddr (k := o99) (fun _ => by kernel_rfl) rfl ?_)
      refine s_op (o_load1 (v := (S x101.1)) Tryd.underlying9 rfl rfl hH24 (seg_sub 5 rfl) (CellsAt.field (k := 0) (ds := [(S x101.1)]) hc100 rfl) ?_)
      refine s_op (o_move (v := (S key)) e20_1 ?_)
      refine s_op (o_sneq (a := x101.1) (b := key) rfl rfl ?_)
      refine s_nil ?_
      refine t_norm (hK97 _ _ ?_)
      refine c_cond rfl (fun h103 => ?_) (fun h103 => ?_)
      · -- x101.1 ≠ key
        refine Rest.region mixed (by kernel_rfl) ?_
        have hH104 : Has E { w23 with drawn := w23.drawn + 1 } [so, [Hp.one b12 (.cells #[(.int .i64 no), (.int .i64 g), vo] 24 (0, 0))], [Hp.one b8 (.cells #[(.int .i64 0), (.int .i64 0), (.slice none 0 0)] 24 (0, 0))], [Hp.one b5 (.cells #[(.bool v.1), (S v.2)] 29 (0, 0))], [Hp.one b2 (.cells #[(.int .i64 no), (.int .i64 gsn), v_l] 24 (0, 0))], R] := Has0.drew hH24 _
        refine Rest.phaseA (fun w_ => Has E w_ [[Hp.one b12 (.cells #[(.int .i64 no), (.int .i64 g), vo] 24 (0, 0))], [Hp.one b2 (.cells #[(.int .i64 no), (.int .i64 gsn), v_l] 24 (0, 0))], R]) 0 8 8 rfl (by decide) (by kernel_rfl) ?_
        refine a_op 0 rfl (by kernel_rfl) (fun w_ h_ => o_fieldAddr (k := 2) (fun _ => by kernel_rfl) e20_9 ⟨rfl, rfl⟩) ?_
        refine a_op 1 rfl (by kernel_rfl) (fun w_ h_ => o_load1 (v := vo) Tryd.underlying22 rfl rfl h_ (seg_sub 0 rfl) (CellsAt.one rfl) ⟨rfl, rfl⟩) ?_
        refine a_op 2 rfl (by kernel_rfl) (fun w_ h_ => o_fieldAddr (k := 2) (fun _ => by kernel_rfl) e20_4 ⟨rfl, rfl⟩) ?_
        refine a_op 3 rfl (by kernel_rfl) (fun w_ h_ => o_load1 (v := v_l) Tryd.underlying22 rfl rfl h_ (seg_sub 1 rfl) (CellsAt.one rfl) ⟨rfl, rfl⟩) ?_
        refine a_op 4 rfl (by kernel_rfl) (fun w_ h_ => o_move (v := (.int .i64 (k : Int))) e20_11 ⟨rfl, rfl⟩) ?_
        obtain ⟨b105, o106, hc107, ho108⟩ := ix_exF ceC_len Tryd.underlying22 ti45 h_l (by omega) hx102
        refine a_op 5 rfl (by kernel_rfl) (fun w_ h_ => ho108 rfl rfl ⟨rfl, rfl⟩) ?_
        refine a_op 6 rfl (by kernel_rfl) (fun w_ h_ => o_loadN (cs := [(S x101.1), (S x101.2)]) Tryd.underlying45 rfl ti45 rfl h_ (seg_sub 2 rfl) hc107 ⟨rfl, rfl⟩) ?_
        have hH109 : Has E { w23 with drawn := w23.drawn + 1 } [[Hp.one b12 (.cells #[(.int .i64 no), (.int .i64 g), vo] 24 (0, 0))], [Hp.one b2 (.cells #[(.int .i64 no), (.int .i64 gsn), v_l] 24 (0, 0))], R] := (((hH104.front 5 rfl).front 5 rfl).front 3 rfl).first 3 rfl
        refine a_w 7 rfl (by kernel_rfl) hH109 (o_buildSlice (ps := #[(0, (.agg #[(S x101.1), (S x101.2)]))]) (cells := #[(S x101.1), (S x101.2)]) Tryd.underlying22 ti45 (by decide) (parts1 rfl) (by kernel_rfl) hH104 fun b110 w111 hH112 => ?_)
        have hH113 : Has E w111 [[Hp.one b12 (.cells #[(.int .i64 no), (.int .i64 g), vo] 24 (0, 0))], [Hp.one b2 (.cells #[(.int .i64 no), (.int .i64 gsn), v_l] 24 (0, 0))], R] := (((hH112.front 6 rfl).front 6 rfl).front 4 rfl).first 3 rfl
        refine a_done (by kernel_rfl) hH113 ?_
        refine r_op 8 rfl (by kernel_rfl) (o_append Tryd.underlying22 ti45 rfl (by decide) rfl hoo rfl (sl_litF (f := ceC) (l := [x101]) ceC_len rfl rfl (by simp)) (hH112.front 1 rfl) (seg_sub 0 rfl) (one_ceC _) (by simp; omega) (by simp; omega) fun v114 s115 w117 ho116 hH118 => ?_)
        have ho116 : Own 45 2 v114 (out ++ [x101]).length ((out ++ [x101]).flatMap ceC) s115 := ho116.appF
        refine r_op 9 rfl (by kernel_rfl) (o_fieldAddr (k := 2) (fun _ => by kernel_rfl) e20_9 ?_)
        refine r_eff 10 rfl (by kernel_rfl) (o_store1 (c' := #[(.int .i64 no), (.int .i64 g), v114]) ti22 rfl rfl ho116.one (by simp) rfl (hH118.front 2 rfl) fun w119 hH120 => ?_)
        refine Rest.done (by kernel_rfl) ?_
        refine b_norm ?_
        refine t_norm (hK29 _ _ ?_)
        refine c_region ?_
        refine s_op (o_move (v := (.int .i64 (k : Int))) e20_11 ?_)
        refine s_op (o_add (a := (k : Int)) (b := 1) rfl rfl (w64 (by omega) (by omega)) ?_)
        refine s_op (o_assign (v := (.int .i64 ((k : Int) + 1))) rfl ?_)
        refine s_nil ?_
        have hH121 : Has E w119 [s115, [Hp.one b12 (.cells #[(.int .i64 no), (.int .i64 g), v114] 24 (0, 0))], [Hp.one b8 (.cells #[(.int .i64 0), (.int .i64 0), (.slice none 0 0)] 24 (0, 0))], [Hp.one b5 (.cells #[(.bool v.1), (S v.2)] 29 (0, 0))], [Hp.one b2 (.cells #[(.int .i64 no), (.int .i64 gsn), v_l] 24 (0, 0))], R] := Has.pick hH120 [1, 0, 1, 1, 1, 1] (by kernel_rfl)
        refine t_norm ⟨l.length - (k + 1), _, rfl, ?_, ?_⟩
        · omega
        · exact ⟨(k + 1), d, v114, s115, (out ++ [x101]), rfl, hH121, (by omega), (ho116), (by first | omega | (simp only [List.length_append, List.length_cons, List.length_nil]; omega)), (by ((have h_ := putL_step hf (show l[k]? = some _ from hx102)); (have hd_ : d = true := by simpa using h32); (try subst hd_); simpa [h103] using h_)), e20_0, e20_1, e20_2, e20_3, e20_4, e20_6, e20_8, e20_9, e20_10, rfl⟩
      · -- not: x101.1 ≠ key
        refine wp_skip ?_
        refine b_norm ?_
        refine t_norm (hK29 _ _ ?_)
        refine c_region ?_
        refine s_op (o_move (v := (.int .i64 (k : Int))) e20_11 ?_)
        refine s_op (o_add (a := (k : Int)) (b := 1) rfl rfl (w64 (by omega) (by omega)) ?_)
        refine s_op (o_assign (v := (.int .i64 ((k : Int) + 1))) rfl ?_)
        refine s_nil ?_
        refine t_norm ⟨l.length - (k + 1), _, rfl, ?_, ?_⟩
        · omega
        · exact ⟨(k + 1), d, vo, so, out, rfl, hH24, (by omega), (hoo), (by first | omega | (simp only [List.length_append, List.length_cons, List.length_nil]; omega)), (by ((have h_ := putL_step hf (show l[k]? = some _ from hx102)); (have hd_ : d = true := by simpa using h32); (try subst hd_); simpa [h103] using h_)), e20_0, e20_1, e20_2, e20_3, e20_4, e20_6, e20_8, e20_9, e20_10, rfl⟩
  · -- not: (k : Int) < ((l.length : Nat) : Int)
    refine wp_exit ?_
    refine t_exit (t_exit (x_in (?_)))
    refine t_norm (hK18 _ _ ?_)
    refine wp_seq_k fun K122 hK122 => ?_
    refine wp_seq_k fun K123 hK123 => ?_
    refine c_region ?_
    refine s_op (o_move (v := (.bool d)) e20_10 ?_)
    refine s_op (o_not rfl ?_)
    refine s_nil ?_
    refine t_norm (hK123 _ _ ?_)
    refine c_condb rfl (fun h124 => ?_) (fun h124 => ?_)
    · -- !d
      have h124_n : d = false := by simpa using h124
      refine c_region ?_
      refine s_op (o_fieldAddr (k := 2) (fun _ => by kernel_rfl) e20_9 ?_)
      refine s_op (o_load1 (v := vo) Tryd.underlying22 rfl rfl hH24 (seg_sub 1 rfl) (CellsAt.one rfl) ?_)
      refine s_op (o_move (v := (S key)) e20_1 ?_)
      refine s_op (o_fieldAddr (k := 1) (fun _ => by kernel_rfl) e20_6 ?_)
      refine s_op (o_load1 (v := (S v.2)) Tryd.underlying9 rfl rfl hH24 (seg_sub 3 rfl) (CellsAt.one rfl) ?_)
      refine s_op (o_sight (v := (.agg #[(S key), (S v.2)])) (fun _ => by kernel_rfl) ?_)
      refine s_op (o_buildSlice (ps := #[(0, (.agg #[(S key), (S v.2)]))]) (cells := #[(S key), (S v.2)]) Tryd.underlying22 ti45 (by decide) (parts1 rfl) (by kernel_rfl) hH24 fun b125 w126 hH127 => ?_)
      refine s_op (o_append Tryd.underlying22 ti45 rfl (by decide) rfl hoo rfl (sl_litF (f := ceC) (l := [((key, v.2) : Cel)]) ceC_len rfl rfl (by simp)) (hH127.front 1 rfl) (seg_sub 0 rfl) (one_ceC _) (by simp; omega) (by simp; omega) fun v128 s129 w131 ho130 hH132 => ?_)
      have ho130 : Own 45 2 v128 (out ++ [((key, v.2) : Cel)]).length ((out ++ [((key, v.2) : Cel)]).flatMap ceC) s129 := ho130.appF
      refine s_op (o_fieldAddr (k := 2) (fun _ => by kernel_rfl) e20_9 ?_)
      refine s_eff (o_store1 (c' := #[(.int .i64 no), (.int .i64 g), v128]) ti22 rfl rfl ho130.one (by simp) rfl (hH132.front 2 rfl) fun w133 hH134 => ?_)
      refine s_nil ?_
      refine t_norm (hK122 _ _ ?_)
      refine wp_seq_k fun K135 hK135 => ?_
      refine c_region ?_
      refine s_op (o_loadN (cs := [(.int .i64 no), (.int .i64 g), v128]) Tryd.underlying24 rfl ti24 e20_9 hH134 (seg_sub 0 rfl) (CellsAt.one rfl) ?_)
      refine s_eff (o_storeN (vs := [(.int .i64 no), (.int .i64 g), v128]) (c' := #[(.int .i64 no), (.int .i64 g), v128]) ti24 e20_8 rfl rfl rfl (by intro u hu; simp only [List.mem_cons, List.not_mem_nil, or_false] at hu; rcases hu with rfl | rfl | rfl <;> first | rfl | exact ho130.one) (by simp) (by kernel_rfl) (hH134.front 3 rfl) fun w136 hH137 => ?_)
      refine s_nil ?_
      refine t_norm (hK135 _ _ ?_)
      refine wp_ret ?_
      refine c_retC1 Tryd.results46 e20_8 (run_loadVarN (cs := [(.int .i64 no), (.int .i64 g), v128]) Tryd.underlying24 rfl ti24 hH137 (seg_sub 0 rfl) (CellsAt.one rfl)) ?_
      have hE_ := putL_end hf (by omega)
      have hd_ : d = false := by simpa using h124
      simp [hd_] at hE_
      have q138 : (putL key v.2 (!v.1) l) = out ++ [((key, v.2) : Cel)] := by rw [hE_]
      have hH139 : Has E w136 [s129, R] := ((hH137.front 6 rfl).front 3 rfl).first 2 rfl
      exact ⟨_, _, rfl, (by rw [q138]; exact ho130), hH139⟩
    · -- not: !d
      have h124_n : d = true := by simpa using h124
      refine wp_skip ?_
      refine t_norm (hK122 _ _ ?_)
      refine wp_seq_k fun K140 hK140 => ?_
      refine c_region ?_
      refine s_op (o_loadN (cs := [(.int .i64 no), (.int .i64 g), vo]) Tryd.underlying24 rfl ti24 e20_9 hH24 (seg_sub 1 rfl) (CellsAt.one rfl) ?_)
      refine s_eff (o_storeN (vs := [(.int .i64 no), (.int .i64 g), vo]) (c' := #[(.int .i64 no), (.int .i64 g), vo]) ti24 e20_8 rfl rfl rfl (by intro u hu; simp only [List.mem_cons, List.not_mem_nil, or_false] at hu; rcases hu with rfl | rfl | rfl <;> first | rfl | exact hoo.one) (by simp) (by kernel_rfl) (hH24.front 2 rfl) fun w141 hH142 => ?_)
      refine s_nil ?_
      refine t_norm (hK140 _ _ ?_)
      refine wp_ret ?_
      refine c_retC1 Tryd.results46 e20_8 (run_loadVarN (cs := [(.int .i64 no), (.int .i64 g), vo]) Tryd.underlying24 rfl ti24 hH142 (seg_sub 0 rfl) (CellsAt.one rfl)) ?_
      have hE_ := putL_end hf (by omega)
      have hd_ : d = true := by simpa using h124
      simp [hd_] at hE_
      have q143 : (putL key v.2 (!v.1) l) = out := by rw [hE_]
      have hH144 : Has E w141 [so, R] := ((hH142.front 5 rfl).front 2 rfl).first 2 rfl
      exact ⟨_, _, rfl, (by rw [q143]; exact hoo), hH144⟩
end Go.Q
namespace Go.Q
open Go.Proofs
set_option linter.unusedVariables false
set_option maxRecDepth 100000
attribute [local irreducible] wpList OK Code.wp
set_option maxHeartbeats 4000000 in
theorem r11set_c {E w : World} {R : List Hp} {no : Int} {gsn : Int} {v_l : Value} {l : List Cel} {key : Bs} {v : Bool × Bs} {g : Int}  (hH : Has E w [R]) (h_l : Sl R 2 v_l l.length (l.flatMap ceC)) (hn : l.length ≤ 1000) :
    Calls Tryd.prog 17 #[(.agg #[(.int .i64 no), (.int .i64 gsn), v_l]), (S key), (.agg #[(.bool v.1), (S v.2)]), (.int .i64 g)] w fun e w' => ∃ (v1' : Value) (s2' : List Hp), e = .returned (.tuple #[(.agg #[(.int .i64 (setNo no gsn l key v g)), (.int .i64 (setG no gsn l key v g)), v1']), (.int .i64 (setE no gsn l key v g))]) ∧ (Own 45 2 v1' (setL no gsn l key v g).length ((setL no gsn l key v g).flatMap ceC) s2') ∧ Has E w' [s2', R] := by
  refine c_enter (args := [(.agg #[(.int .i64 no), (.int .i64 gsn), v_l]), (S key), (.agg #[(.bool v.1), (S v.2)]), (.int .i64 g)]) Tryd.func17 rfl Tryd.ntmps17 (by simp) ?_
  refine wp_seq_k fun K1 hK1 => ?_
  refine c_region ?_
  refine s_op (o_box (cs := #[(.int .i64 no), (.int .i64 gsn), v_l]) rfl rfl hH fun b2 w3 hH4 => ?_)
  refine s_op (o_box (cs := #[(.bool v.1), (S v.2)]) rfl rfl hH4 fun b5 w6 hH7 => ?_)
  refine s_op (o_alloc (cs := #[(.int .i64 0), (.int .i64 0), (.slice none 0 0)]) ti24 rfl hH7 fun b8 w9 hH10 => ?_)
  refine s_op (o_assign (v := (.int .i64 0)) rfl ?_)
  refine s_nil ?_
  refine t_norm (hK1 _ _ ?_)
  refine wp_seq_k fun K11 hK11 => ?_
  refine c_region ?_
  refine s_op (o_loadN (cs := [(.int .i64 no), (.int .i64 gsn), v_l]) Tryd.underlying24 rfl ti24 rfl hH10 (seg_sub 2 rfl) (CellsAt.one rfl) ?_)
  refine s_op (o_move (v := (S key)) rfl ?_)
  refine s_op (o_callf (vs := #[(.agg #[(.int .i64 no), (.int .i64 gsn), v_l]), (S key)]) ca15 rfl (args2 rfl rfl) (r11get_c (no := no) (gsn := gsn) (l := l) (key := key) hH10.all (h_l.mono (seg_sub 3 rfl))) ?_)
  rintro _ w14 ⟨rfl, hX12⟩
  refine ⟨_, rfl, ?_⟩
  have hH13 := hX12.of_all
  refine s_op (o_sight (v := (.bool ((getC l key).1))) (fun _ => by kernel_rfl) ?_)
  refine s_op (o_assign (v := (.bool ((getC l key).1))) rfl ?_)
  refine s_nil ?_
  refine t_norm (hK11 _ _ ?_)
  refine wp_seq_k fun K15 hK15 => ?_
  refine wp_block ?_
  refine wp_seq_k fun K16 hK16 => ?_
  refine c_region ?_
  refine s_op (o_loadN (cs := [(.int .i64 no), (.int .i64 gsn), v_l]) Tryd.underlying24 rfl ti24 rfl hH13 (seg_sub 2 rfl) (CellsAt.one rfl) ?_)
  refine s_op (o_callf (vs := #[(.agg #[(.int .i64 no), (.int .i64 gsn), v_l])]) ca11 rfl (args1 rfl) (r11right_c (no := no) (gsn := gsn) (l := l) hH13.all (h_l.mono (seg_sub 3 rfl))) ?_)
  rintro _ w19 ⟨rfl, hX17⟩
  refine ⟨_, rfl, ?_⟩
  have hH18 := hX17.of_all
  refine s_op (o_not rfl ?_)
  refine s_op (o_move (v := (.bool (!(pageR no gsn l)))) rfl ?_)
  rcases Bool.eq_false_or_eq_true (!(pageR no gsn l)) with h20 | h20
  · -- !(pageR no gsn l)
    have h20_n : (pageR no gsn l) = false := by simpa using h20
    refine s_off (b' := true) 19 rfl (congrArg Value.bool h20) rfl ?_
    refine s_off (b' := true) 19 rfl (congrArg Value.bool h20) rfl ?_
    refine s_off (b' := true) 19 rfl (congrArg Value.bool h20) rfl ?_
    refine s_op (o_pick_t (u := (.bool true)) ((rfl : _ = _).trans (congrArg Value.bool h20)) rfl ?_)
    refine s_op (o_move (v := (.bool true)) rfl ?_)
    refine s_off (b' := true) 24 rfl rfl rfl ?_
    refine s_off (b' := true) 24 rfl rfl rfl ?_
    refine s_off (b' := true) 24 rfl rfl rfl ?_
    refine s_op (o_pick_t (u := (.bool true)) rfl rfl ?_)
    refine s_op (o_move (v := (.bool true)) rfl ?_)
    refine s_off (b' := true) 29 rfl rfl rfl ?_
    refine s_off (b' := true) 29 rfl rfl rfl ?_
    refine s_off (b' := true) 29 rfl rfl rfl ?_
    refine s_off (b' := true) 29 rfl rfl rfl ?_
    refine s_op (o_pick_t (u := (.bool true)) rfl rfl ?_)
    refine s_op (o_move (v := (.bool true)) rfl ?_)
    refine s_off (b' := true) 35 rfl rfl rfl ?_
    refine s_off (b' := true) 35 rfl rfl rfl ?_
    refine s_op (o_pick_t (u := (.bool true)) rfl rfl ?_)
    refine s_op (o_assign (v := (.bool true)) rfl ?_)
    refine s_nil ?_
    refine t_norm (hK16 _ _ ?_)
    refine c_true rfl rfl ?_
    refine wp_seq_k fun K21 hK21 => ?_
    refine c_region ?_
    refine s_op (o_sight (v := (.agg #[(.int .i64 0), (.int .i64 0), (.slice none 0 0)])) (fun _ => by kernel_rfl) ?_)
    refine s_eff (o_storeN (vs := [(.int .i64 0), (.int .i64 0), (.slice none 0 0)]) (c' := #[(.int .i64 0), (.int .i64 0), (.slice none 0 0)]) ti24 rfl rfl rfl rfl (by intro u hu; simp only [List.mem_cons, List.not_mem_nil, or_false] at hu; rcases hu with rfl | rfl | rfl <;> first | rfl) (by simp) (by kernel_rfl) (hH18.front 0 rfl) fun w22 hH23 => ?_)
    refine s_op (o_assign (v := (.int .i64 1)) rfl ?_)
    refine s_nil ?_
    refine t_norm (hK21 _ _ ?_)
    refine wp_ret ?_
    refine b_ret (t_ret (c_retC2 Tryd.results17 rfl (run_loadVarN (cs := [(.int .i64 0), (.int .i64 0), (.slice none 0 0)]) Tryd.underlying24 rfl ti24 hH23 (seg_sub 0 rfl) (CellsAt.one rfl)) (x := (.int .i64 1)) rfl ?_))
    have hE_ : setE no gsn l key v g = 1 := setE_bad (by first | exact .inl (by simpa using h20) | exact .inr (.inl (by simpa using h20)) | exact .inr (.inr (.inl (by simpa using h20))) | exact .inl (by simpa using h20_n) | exact .inr (.inl (by simpa using h20_n)) | exact .inr (.inr (.inl (by simpa using h20_n))) | exact .inr (.inr (.inr (.inl (by omega)))) | exact .inr (.inr (.inr (.inr (by omega)))))
    have q24 : (setNo no gsn l key v g) = 0 := by unfold setNo; rw [if_neg (by rw [hE_]; decide)]
    have q25 : (setG no gsn l key v g) = 0 := by unfold setG; rw [if_neg (by rw [hE_]; decide)]
    have q26 : (setL no gsn l key v g) = ([] : List Cel) := by unfold setL; rw [if_neg (by rw [hE_]; decide)]
    have q27 : (setE no gsn l key v g) = 1 := by exact hE_
    have hH28 : Has E w22 [[], R] := (Has.nil (hH23.front 3 rfl)).first 2 rfl
    exact ⟨_, _, by rw [q24, q25]; rw [q27], (by rw [q26]; exact (Own.nil 45 2)), hH28⟩
  · -- not: !(pageR no gsn l)
    have h20_n : (pageR no gsn l) = true := by simpa using h20
    refine s_on 19 rfl (congrArg Value.bool h20) (o_move (v := (S key)) rfl ?_)
    refine s_on 19 rfl (congrArg Value.bool h20) (o_callf (vs := #[(S key)]) ca36 rfl (args1 rfl) (rkey_c (k := key) hH18.all ) ?_)
    rintro _ w31 ⟨rfl, hX29⟩
    refine ⟨_, rfl, ?_⟩
    have hH30 := hX29.of_all
    refine s_on 19 rfl (congrArg Value.bool h20) (o_not rfl ?_)
    refine s_op (o_pick_f (u := (.bool (!(keyR key)))) ((rfl : _ = _).trans (congrArg Value.bool h20)) rfl ?_)
    refine s_op (o_move (v := (.bool (!(keyR key)))) rfl ?_)
    rcases Bool.eq_false_or_eq_true (!(keyR key)) with h32 | h32
    · -- !(keyR key)
      have h32_n : (keyR key) = false := by simpa using h32
      refine s_off (b' := true) 24 rfl (congrArg Value.bool h32) rfl ?_
      refine s_off (b' := true) 24 rfl (congrArg Value.bool h32) rfl ?_
      refine s_off (b' := true) 24 rfl (congrArg Value.bool h32) rfl ?_
      refine s_op (o_pick_t (u := (.bool true)) ((rfl : _ = _).trans (congrArg Value.bool h32)) rfl ?_)
      refine s_op (o_move (v := (.bool true)) rfl ?_)
      refine s_off (b' := true) 29 rfl rfl rfl ?_
      refine s_off (b' := true) 29 rfl rfl rfl ?_
      refine s_off (b' := true) 29 rfl rfl rfl ?_
      refine s_off (b' := true) 29 rfl rfl rfl ?_
      refine s_op (o_pick_t (u := (.bool true)) rfl rfl ?_)
      refine s_op (o_move (v := (.bool true)) rfl ?_)
      refine s_off (b' := true) 35 rfl rfl rfl ?_
      refine s_off (b' := true) 35 rfl rfl rfl ?_
      refine s_op (o_pick_t (u := (.bool true)) rfl rfl ?_)
      refine s_op (o_assign (v := (.bool true)) rfl ?_)
      refine s_nil ?_
      refine t_norm (hK16 _ _ ?_)
      refine c_true rfl rfl ?_
      refine wp_seq_k fun K33 hK33 => ?_
      refine c_region ?_
      refine s_op (o_sight (v := (.agg #[(.int .i64 0), (.int .i64 0), (.slice none 0 0)])) (fun _ => by kernel_rfl) ?_)
      refine s_eff (o_storeN (vs := [(.int .i64 0), (.int .i64 0), (.slice none 0 0)]) (c' := #[(.int .i64 0), (.int .i64 0), (.slice none 0 0)]) ti24 rfl rfl rfl rfl (by intro u hu; simp only [List.mem_cons, List.not_mem_nil, or_false] at hu; rcases hu with rfl | rfl | rfl <;> first | rfl) (by simp) (by kernel_rfl) (hH30.front 0 rfl) fun w34 hH35 => ?_)
      refine s_op (o_assign (v := (.int .i64 1)) rfl ?_)
      refine s_nil ?_
      refine t_norm (hK33 _ _ ?_)
      refine wp_ret ?_
      refine b_ret (t_ret (c_retC2 Tryd.results17 rfl (run_loadVarN (cs := [(.int .i64 0), (.int .i64 0), (.slice none 0 0)]) Tryd.underlying24 rfl ti24 hH35 (seg_sub 0 rfl) (CellsAt.one rfl)) (x := (.int .i64 1)) rfl ?_))
      have hE_ : setE no gsn l key v g = 1 := setE_bad (by first | exact .inl (by simpa using h20) | exact .inr (.inl (by simpa using h20)) | exact .inr (.inr (.inl (by simpa using h20))) | exact .inl (by simpa using h20_n) | exact .inr (.inl (by simpa using h20_n)) | exact .inr (.inr (.inl (by simpa using h20_n))) | exact .inl (by simpa using h32) | exact .inr (.inl (by simpa using h32)) | exact .inr (.inr (.inl (by simpa using h32))) | exact .inl (by simpa using h32_n) | exact .inr (.inl (by simpa using h32_n)) | exact .inr (.inr (.inl (by simpa using h32_n))) | exact .inr (.inr (.inr (.inl (by omega)))) | exact .inr (.inr (.inr (.inr (by omega)))))
      have q36 : (setNo no gsn l key v g) = 0 := by unfold setNo; rw [if_neg (by rw [hE_]; decide)]
      have q37 : (setG no gsn l key v g) = 0 := by unfold setG; rw [if_neg (by rw [hE_]; decide)]
      have q38 : (setL no gsn l key v g) = ([] : List Cel) := by unfold setL; rw [if_neg (by rw [hE_]; decide)]
      have q39 : (setE no gsn l key v g) = 1 := by exact hE_
      have hH40 : Has E w34 [[], R] := (Has.nil (hH35.front 3 rfl)).first 2 rfl
      exact ⟨_, _, by rw [q36, q37]; rw [q39], (by rw [q38]; exact (Own.nil 45 2)), hH40⟩
    · -- not: !(keyR key)
      have h32_n : (keyR key) = true := by simpa using h32
      refine s_on 24 rfl (congrArg Value.bool h32) (o_loadN (cs := [(.bool v.1), (S v.2)]) Tryd.underlying29 rfl ti29 rfl hH30 (seg_sub 1 rfl) (CellsAt.one rfl) ?_)
      refine s_on 24 rfl (congrArg Value.bool h32) (o_callf (vs := #[(.agg #[(.bool v.1), (S v.2)])]) ca45 rfl (args1 rfl) (rvalue_c (v := (v.1, v.2)) hH30.all ) ?_)
      rintro _ w43 ⟨rfl, hX41⟩
      refine ⟨_, rfl, ?_⟩
      have hH42 := hX41.of_all
      refine s_on 24 rfl (congrArg Value.bool h32) (o_not rfl ?_)
      refine s_op (o_pick_f (u := (.bool (!(valR (v.1, v.2))))) ((rfl : _ = _).trans (congrArg Value.bool h32)) rfl ?_)
      refine s_op (o_move (v := (.bool (!(valR (v.1, v.2))))) rfl ?_)
      rcases Bool.eq_false_or_eq_true (!(valR (v.1, v.2))) with h44 | h44
      · -- !(valR (v.1, v.2))
        have h44_n : (valR (v.1, v.2)) = false := by simpa using h44
        refine s_off (b' := true) 29 rfl (congrArg Value.bool h44) rfl ?_
        refine s_off (b' := true) 29 rfl (congrArg Value.bool h44) rfl ?_
        refine s_off (b' := true) 29 rfl (congrArg Value.bool h44) rfl ?_
        refine s_off (b' := true) 29 rfl (congrArg Value.bool h44) rfl ?_
        refine s_op (o_pick_t (u := (.bool true)) ((rfl : _ = _).trans (congrArg Value.bool h44)) rfl ?_)
        refine s_op (o_move (v := (.bool true)) rfl ?_)
        refine s_off (b' := true) 35 rfl rfl rfl ?_
        refine s_off (b' := true) 35 rfl rfl rfl ?_
        refine s_op (o_pick_t (u := (.bool true)) rfl rfl ?_)
        refine s_op (o_assign (v := (.bool true)) rfl ?_)
        refine s_nil ?_
        refine t_norm (hK16 _ _ ?_)
        refine c_true rfl rfl ?_
        refine wp_seq_k fun K45 hK45 => ?_
        refine c_region ?_
        refine s_op (o_sight (v := (.agg #[(.int .i64 0), (.int .i64 0), (.slice none 0 0)])) (fun _ => by kernel_rfl) ?_)
        refine s_eff (o_storeN (vs := [(.int .i64 0), (.int .i64 0), (.slice none 0 0)]) (c' := #[(.int .i64 0), (.int .i64 0), (.slice none 0 0)]) ti24 rfl rfl rfl rfl (by intro u hu; simp only [List.mem_cons, List.not_mem_nil, or_false] at hu; rcases hu with rfl | rfl | rfl <;> first | rfl) (by simp) (by kernel_rfl) (hH42.front 0 rfl) fun w46 hH47 => ?_)
        refine s_op (o_assign (v := (.int .i64 1)) rfl ?_)
        refine s_nil ?_
        refine t_norm (hK45 _ _ ?_)
        refine wp_ret ?_
        refine b_ret (t_ret (c_retC2 Tryd.results17 rfl (run_loadVarN (cs := [(.int .i64 0), (.int .i64 0), (.slice none 0 0)]) Tryd.underlying24 rfl ti24 hH47 (seg_sub 0 rfl) (CellsAt.one rfl)) (x := (.int .i64 1)) rfl ?_))
        have hE_ : setE no gsn l key v g = 1 := setE_bad (by first | exact .inl (by simpa using h20) | exact .inr (.inl (by simpa using h20)) | exact .inr (.inr (.inl (by simpa using h20))) | exact .inl (by simpa using h20_n) | exact .inr (.inl (by simpa using h20_n)) | exact .inr (.inr (.inl (by simpa using h20_n))) | exact .inl (by simpa using h32) | exact .inr (.inl (by simpa using h32)) | exact .inr (.inr (.inl (by simpa using h32))) | exact .inl (by simpa using h32_n) | exact .inr (.inl (by simpa using h32_n)) | exact .inr (.inr (.inl (by simpa using h32_n))) | exact .inl (by simpa using h44) | exact .inr (.inl (by simpa using h44)) | exact .inr (.inr (.inl (by simpa using h44))) | exact .inl (by simpa using h44_n) | exact .inr (.inl (by simpa using h44_n)) | exact .inr (.inr (.inl (by simpa using h44_n))) | exact .inr (.inr (.inr (.inl (by omega)))) | exact .inr (.inr (.inr (.inr (by omega)))))
        have q48 : (setNo no gsn l key v g) = 0 := by unfold setNo; rw [if_neg (by rw [hE_]; decide)]
        have q49 : (setG no gsn l key v g) = 0 := by unfold setG; rw [if_neg (by rw [hE_]; decide)]
        have q50 : (setL no gsn l key v g) = ([] : List Cel) := by unfold setL; rw [if_neg (by rw [hE_]; decide)]
        have q51 : (setE no gsn l key v g) = 1 := by exact hE_
        have hH52 : Has E w46 [[], R] := (Has.nil (hH47.front 3 rfl)).first 2 rfl
        exact ⟨_, _, by rw [q48, q49]; rw [q51], (by rw [q50]; exact (Own.nil 45 2)), hH52⟩
      · -- not: !(valR (v.1, v.2))
        have h44_n : (valR (v.1, v.2)) = true := by simpa using h44
        refine s_on 29 rfl (congrArg Value.bool h44) (o_move (v := (.int .i64 g)) rfl ?_)
        refine s_on 29 rfl (congrArg Value.bool h44) (o_fieldAddr (k := 1) (fun _ => by kernel_rfl) rfl ?_)
        refine s_on 29 rfl (congrArg Value.bool h44) (o_load1 (v := (.int .i64 gsn)) Tryd.underlying3 rfl rfl hH42 (seg_sub 2 rfl) (CellsAt.one rfl) ?_)
        refine s_on 29 rfl (congrArg Value.bool h44) (o_leq (a := g) (b := gsn) rfl rfl ?_)
        refine s_op (o_pick_f (u := (.bool (decide (g ≤ gsn)))) ((rfl : _ = _).trans (congrArg Value.bool h44)) rfl ?_)
        refine s_op (o_move (v := (.bool (decide (g ≤ gsn)))) rfl ?_)
        by_cases h53 : g ≤ gsn
        · -- g ≤ gsn
          refine s_off (b' := true) 35 rfl (congrArg Value.bool (decide_eq_true h53)) rfl ?_
          refine s_off (b' := true) 35 rfl (congrArg Value.bool (decide_eq_true h53)) rfl ?_
          refine s_op (o_pick_t (u := (.bool true)) ((rfl : _ = _).trans (congrArg Value.bool (decide_eq_true h53))) rfl ?_)
          refine s_op (o_assign (v := (.bool true)) rfl ?_)
          refine s_nil ?_
          refine t_norm (hK16 _ _ ?_)
          refine c_true rfl rfl ?_
          refine wp_seq_k fun K54 hK54 => ?_
          refine c_region ?_
          refine s_op (o_sight (v := (.agg #[(.int .i64 0), (.int .i64 0), (.slice none 0 0)])) (fun _ => by kernel_rfl) ?_)
          refine s_eff (o_storeN (vs := [(.int .i64 0), (.int .i64 0), (.slice none 0 0)]) (c' := #[(.int .i64 0), (.int .i64 0), (.slice none 0 0)]) ti24 rfl rfl rfl rfl (by intro u hu; simp only [List.mem_cons, List.not_mem_nil, or_false] at hu; rcases hu with rfl | rfl | rfl <;> first | rfl) (by simp) (by kernel_rfl) (hH42.front 0 rfl) fun w55 hH56 => ?_)
          refine s_op (o_assign (v := (.int .i64 1)) rfl ?_)
          refine s_nil ?_
          refine t_norm (hK54 _ _ ?_)
          refine wp_ret ?_
          refine b_ret (t_ret (c_retC2 Tryd.results17 rfl (run_loadVarN (cs := [(.int .i64 0), (.int .i64 0), (.slice none 0 0)]) Tryd.underlying24 rfl ti24 hH56 (seg_sub 0 rfl) (CellsAt.one rfl)) (x := (.int .i64 1)) rfl ?_))
          have hE_ : setE no gsn l key v g = 1 := setE_bad (by first | exact .inl (by simpa using h20) | exact .inr (.inl (by simpa using h20)) | exact .inr (.inr (.inl (by simpa using h20))) | exact .inl (by simpa using h20_n) | exact .inr (.inl (by simpa using h20_n)) | exact .inr (.inr (.inl (by simpa using h20_n))) | exact .inl (by simpa using h32) | exact .inr (.inl (by simpa using h32)) | exact .inr (.inr (.inl (by simpa using h32))) | exact .inl (by simpa using h32_n) | exact .inr (.inl (by simpa using h32_n)) | exact .inr (.inr (.inl (by simpa using h32_n))) | exact .inl (by simpa using h44) | exact .inr (.inl (by simpa using h44)) | exact .inr (.inr (.inl (by simpa using h44))) | exact .inl (by simpa using h44_n) | exact .inr (.inl (by simpa using h44_n)) | exact .inr (.inr (.inl (by simpa using h44_n))) | exact .inl (by simpa using h53) | exact .inr (.inl (by simpa using h53)) | exact .inr (.inr (.inl (by simpa using h53))) | exact .inr (.inr (.inr (.inl (by omega)))) | exact .inr (.inr (.inr (.inr (by omega)))))
          have q57 : (setNo no gsn l key v g) = 0 := by unfold setNo; rw [if_neg (by rw [hE_]; decide)]
          have q58 : (setG no gsn l key v g) = 0 := by unfold setG; rw [if_neg (by rw [hE_]; decide)]
          have q59 : (setL no gsn l key v g) = ([] : List Cel) := by unfold setL; rw [if_neg (by rw [hE_]; decide)]
          have q60 : (setE no gsn l key v g) = 1 := by exact hE_
          have hH61 : Has E w55 [[], R] := (Has.nil (hH56.front 3 rfl)).first 2 rfl
          exact ⟨_, _, by rw [q57, q58]; rw [q60], (by rw [q59]; exact (Own.nil 45 2)), hH61⟩
        · -- not: g ≤ gsn
          refine s_on 35 rfl (congrArg Value.bool (decide_eq_false h53)) (o_move (v := (.int .i64 g)) rfl ?_)
          refine s_on 35 rfl (congrArg Value.bool (decide_eq_false h53)) (o_geq (a := g) (b := 4611686018427387904) rfl rfl ?_)
          refine s_op (o_pick_f (u := (.bool (decide (4611686018427387904 ≤ g)))) ((rfl : _ = _).trans (congrArg Value.bool (decide_eq_false h53))) rfl ?_)
          refine s_op (o_assign (v := (.bool (decide (4611686018427387904 ≤ g)))) rfl ?_)
          refine s_nil ?_
          refine t_norm (hK16 _ _ ?_)
          refine c_cond rfl (fun h62 => ?_) (fun h62 => ?_)
          · -- 4611686018427387904 ≤ g
            refine wp_seq_k fun K63 hK63 => ?_
            refine c_region ?_
            refine s_op (o_sight (v := (.agg #[(.int .i64 0), (.int .i64 0), (.slice none 0 0)])) (fun _ => by kernel_rfl) ?_)
            refine s_eff (o_storeN (vs := [(.int .i64 0), (.int .i64 0), (.slice none 0 0)]) (c' := #[(.int .i64 0), (.int .i64 0), (.slice none 0 0)]) ti24 rfl rfl rfl rfl (by intro u hu; simp only [List.mem_cons, List.not_mem_nil, or_false] at hu; rcases hu with rfl | rfl | rfl <;> first | rfl) (by simp) (by kernel_rfl) (hH42.front 0 rfl) fun w65 hH66 => ?_)
            refine s_op (o_assign (v := (.int .i64 1)) rfl ?_)
            refine s_nil ?_
            refine t_norm (hK63 _ _ ?_)
            refine wp_ret ?_
            refine b_ret (t_ret (c_retC2 Tryd.results17 rfl (run_loadVarN (cs := [(.int .i64 0), (.int .i64 0), (.slice none 0 0)]) Tryd.underlying24 rfl ti24 hH66 (seg_sub 0 rfl) (CellsAt.one rfl)) (x := (.int .i64 1)) rfl ?_))
            have hE_ : setE no gsn l key v g = 1 := setE_bad (by first | exact .inl (by simpa using h20) | exact .inr (.inl (by simpa using h20)) | exact .inr (.inr (.inl (by simpa using h20))) | exact .inl (by simpa using h20_n) | exact .inr (.inl (by simpa using h20_n)) | exact .inr (.inr (.inl (by simpa using h20_n))) | exact .inl (by simpa using h32) | exact .inr (.inl (by simpa using h32)) | exact .inr (.inr (.inl (by simpa using h32))) | exact .inl (by simpa using h32_n) | exact .inr (.inl (by simpa using h32_n)) | exact .inr (.inr (.inl (by simpa using h32_n))) | exact .inl (by simpa using h44) | exact .inr (.inl (by simpa using h44)) | exact .inr (.inr (.inl (by simpa using h44))) | exact .inl (by simpa using h44_n) | exact .inr (.inl (by simpa using h44_n)) | exact .inr (.inr (.inl (by simpa using h44_n))) | exact .inl (by simpa using h53) | exact .inr (.inl (by simpa using h53)) | exact .inr (.inr (.inl (by simpa using h53))) | exact .inl (by simpa using h62) | exact .inr (.inl (by simpa using h62)) | exact .inr (.inr (.inl (by simpa using h62))) | exact .inr (.inr (.inr (.inl (by omega)))) | exact .inr (.inr (.inr (.inr (by omega)))))
            have q67 : (setNo no gsn l key v g) = 0 := by unfold setNo; rw [if_neg (by rw [hE_]; decide)]
            have q68 : (setG no gsn l key v g) = 0 := by unfold setG; rw [if_neg (by rw [hE_]; decide)]
            have q69 : (setL no gsn l key v g) = ([] : List Cel) := by unfold setL; rw [if_neg (by rw [hE_]; decide)]
            have q70 : (setE no gsn l key v g) = 1 := by exact hE_
            have hH71 : Has E w65 [[], R] := (Has.nil (hH66.front 3 rfl)).first 2 rfl
            exact ⟨_, _, by rw [q67, q68]; rw [q70], (by rw [q69]; exact (Own.nil 45 2)), hH71⟩
          · -- not: 4611686018427387904 ≤ g
            have hP_ := pageR_iff.1 (by first | (simpa using h20) | (simpa using h20_n))
            have hC_ := cellsR_iff.1 hP_.2
            have hs := hC_.2.1
            have hl := hC_.2.2
            have hok_ := setE_ok (g := g) (v := v) (key := key) (by first | (simpa using h20) | (simpa using h20_n)) (by first | (simpa using h32) | (simpa using h32_n)) (by first | (simpa using h44) | (simpa using h44_n)) (by omega) (by omega)
            refine wp_seq_k fun K72 hK72 => ?_
            refine c_region ?_
            refine s_op (o_fieldAddr (k := 0) (fun _ => by kernel_rfl) rfl ?_)
            refine s_op (o_load1 (v := (.bool v.1)) Tryd.underlying4 rfl rfl hH42 (seg_sub 1 rfl) (CellsAt.one rfl) ?_)
            refine s_op (o_not rfl ?_)
            refine s_op (o_move (v := (.bool (!v.1))) rfl ?_)
            rcases Bool.eq_false_or_eq_true (!v.1) with h73 | h73
            · -- !v.1
              have h73_n : v.1 = false := by simpa using h73
              refine s_on 44 rfl (congrArg Value.bool h73) (o_move (v := (.bool ((getC l key).1))) rfl ?_)
              refine s_on 44 rfl (congrArg Value.bool h73) (o_not rfl ?_)
              refine s_op (o_pick_t (u := (.bool (!((getC l key).1)))) ((rfl : _ = _).trans (congrArg Value.bool h73)) rfl ?_)
              refine s_op (o_assign (v := (.bool (!((getC l key).1)))) rfl ?_)
              refine s_nil ?_
              refine t_norm (hK72 _ _ ?_)
              refine c_condb rfl (fun h74 => ?_) (fun h74 => ?_)
              · -- !((getC l key).1)
                have h74_n : ((getC l key).1) = false := by simpa using h74
                refine wp_seq_k fun K75 hK75 => ?_
                refine c_region ?_
                refine s_op (o_sight (v := (.agg #[(.int .i64 0), (.int .i64 0), (.slice none 0 0)])) (fun _ => by kernel_rfl) ?_)
                refine s_eff (o_storeN (vs := [(.int .i64 0), (.int .i64 0), (.slice none 0 0)]) (c' := #[(.int .i64 0), (.int .i64 0), (.slice none 0 0)]) ti24 rfl rfl rfl rfl (by intro u hu; simp only [List.mem_cons, List.not_mem_nil, or_false] at hu; rcases hu with rfl | rfl | rfl <;> first | rfl) (by simp) (by kernel_rfl) (hH42.front 0 rfl) fun w76 hH77 => ?_)
                refine s_op (o_assign (v := (.int .i64 7)) rfl ?_)
                refine s_nil ?_
                refine t_norm (hK75 _ _ ?_)
                refine wp_ret ?_
                refine b_ret (t_ret (c_retC2 Tryd.results17 rfl (run_loadVarN (cs := [(.int .i64 0), (.int .i64 0), (.slice none 0 0)]) Tryd.underlying24 rfl ti24 hH77 (seg_sub 0 rfl) (CellsAt.one rfl)) (x := (.int .i64 7)) rfl ?_))
                have hv1_ : v.1 = false := by simpa using h73
                have hgc_ : (getC l key).1 = false := by simpa using h74
                rw [getC_has] at hgc_
                have hE_ : setE no gsn l key v g = 7 := by rw [hok_]; simp [hv1_, hgc_]; try omega
                have q78 : (setNo no gsn l key v g) = 0 := by unfold setNo; rw [if_neg (by rw [hE_]; decide)]
                have q79 : (setG no gsn l key v g) = 0 := by unfold setG; rw [if_neg (by rw [hE_]; decide)]
                have q80 : (setL no gsn l key v g) = ([] : List Cel) := by unfold setL; rw [if_neg (by rw [hE_]; decide)]
                have q81 : (setE no gsn l key v g) = 7 := by exact hE_
                have hH82 : Has E w76 [[], R] := (Has.nil (hH77.front 3 rfl)).first 2 rfl
                exact ⟨_, _, by rw [q78, q79]; rw [q81], (by rw [q80]; exact (Own.nil 45 2)), hH82⟩
              · -- not: !((getC l key).1)
                have h74_n : ((getC l key).1) = true := by simpa using h74
                refine wp_seq_k fun K83 hK83 => ?_
                refine c_region ?_
                refine s_op (o_fieldAddr (k := 0) (fun _ => by kernel_rfl) rfl ?_)
                refine s_op (o_load1 (v := (.bool v.1)) Tryd.underlying4 rfl rfl hH42 (seg_sub 1 rfl) (CellsAt.one rfl) ?_)
                refine s_op (o_move (v := (.bool v.1)) rfl ?_)
                refine s_off (b' := false) 52 rfl (congrArg Value.bool h73_n) rfl ?_
                refine s_off (b' := false) 52 rfl (congrArg Value.bool h73_n) rfl ?_
                refine s_op (o_pick_f (u := (.bool false)) ((rfl : _ = _).trans (congrArg Value.bool h73_n)) rfl ?_)
                refine s_op (o_move (v := (.bool false)) rfl ?_)
                refine s_off (b' := false) 56 rfl rfl rfl ?_
                refine s_off (b' := false) 56 rfl rfl rfl ?_
                refine s_off (b' := false) 56 rfl rfl rfl ?_
                refine s_off (b' := false) 56 rfl rfl rfl ?_
                refine s_op (o_pick_f (u := (.bool false)) rfl rfl ?_)
                refine s_op (o_assign (v := (.bool false)) rfl ?_)
                refine s_nil ?_
                refine t_norm (hK83 _ _ ?_)
                refine c_false rfl rfl ?_
                refine wp_skip ?_
                refine b_norm ?_
                refine t_norm (hK15 _ _ ?_)
                refine wp_seq_k fun K84 hK84 => ?_
                refine c_region ?_
                refine s_op (o_loadN (cs := [(.int .i64 no), (.int .i64 gsn), v_l]) Tryd.underlying24 rfl ti24 rfl hH42 (seg_sub 2 rfl) (CellsAt.one rfl) ?_)
                refine s_op (o_move (v := (S key)) rfl ?_)
                refine s_op (o_loadN (cs := [(.bool v.1), (S v.2)]) Tryd.underlying29 rfl ti29 rfl hH42 (seg_sub 1 rfl) (CellsAt.one rfl) ?_)
                refine s_op (o_move (v := (.int .i64 g)) rfl ?_)
                refine s_op (o_callf (vs := #[(.agg #[(.int .i64 no), (.int .i64 gsn), v_l]), (S key), (.agg #[(.bool v.1), (S v.2)]), (.int .i64 g)]) ca46 rfl (args4 rfl rfl rfl rfl) (r11put_c (no := no) (gsn := gsn) (l := l) (key := key) (v := (v.1, v.2)) (g := g) hH42.all (h_l.mono (seg_sub 3 rfl)) (by first | omega | (simp only []; omega) | (simp; done) | (simp; omega))) ?_)
                rintro _ w90 ⟨v85, s86, rfl, ho87, hX88⟩
                refine ⟨_, rfl, ?_⟩
                have hH89 : Has E w90 [s86, [Hp.one b8 (.cells #[(.int .i64 0), (.int .i64 0), (.slice none 0 0)] 24 (0, 0))], [Hp.one b5 (.cells #[(.bool v.1), (S v.2)] 29 (0, 0))], [Hp.one b2 (.cells #[(.int .i64 no), (.int .i64 gsn), v_l] 24 (0, 0))], R] := hX88.of_all1
                refine s_eff (o_storeN (vs := [(.int .i64 no), (.int .i64 g), v85]) (c' := #[(.int .i64 no), (.int .i64 g), v85]) ti24 rfl rfl rfl rfl (by intro u hu; simp only [List.mem_cons, List.not_mem_nil, or_false] at hu; rcases hu with rfl | rfl | rfl <;> first | rfl | exact ho87.one) (by simp) (by kernel_rfl) (hH89.front 1 rfl) fun w91 hH92 => ?_)
                refine s_op (o_assign (v := (.int .i64 0)) rfl ?_)
                refine s_nil ?_
                refine t_norm (hK84 _ _ ?_)
                refine wp_ret ?_
                refine c_retC2 Tryd.results17 rfl (run_loadVarN (cs := [(.int .i64 no), (.int .i64 g), v85]) Tryd.underlying24 rfl ti24 hH92 (seg_sub 0 rfl) (CellsAt.one rfl)) (x := (.int .i64 0)) rfl ?_
                have hv1_ : v.1 = false := by simpa using h73
                have hgc_ : (getC l key).1 = true := by simpa using h74
                rw [getC_has] at hgc_
                have hE_ : setE no gsn l key v g = 0 := by rw [hok_]; simp [hv1_, hgc_]; try omega
                have q93 : (setNo no gsn l key v g) = no := by unfold setNo; rw [if_pos hE_]
                have q94 : (setG no gsn l key v g) = g := by unfold setG; rw [if_pos hE_]
                have q95 : (setL no gsn l key v g) = (putL key (v.1, v.2).2 (!(v.1, v.2).1) l) := by unfold setL; rw [if_pos hE_]; exact (put_eq hs (by first | exact .inl hv1_ | exact .inr hgc_)).symm
                have q96 : (setE no gsn l key v g) = 0 := by exact hE_
                have hH97 : Has E w91 [s86, R] := ((hH92.front 4 rfl).front 2 rfl).first 2 rfl
                exact ⟨_, _, by rw [q93, q94]; rw [q96], (by rw [q95]; exact ho87), hH97⟩
            · -- not: !v.1
              have h73_n : v.1 = true := by simpa using h73
              refine s_off (b' := false) 44 rfl (congrArg Value.bool h73) rfl ?_
              refine s_off (b' := false) 44 rfl (congrArg Value.bool h73) rfl ?_
              refine s_op (o_pick_f (u := (.bool false)) ((rfl : _ = _).trans (congrArg Value.bool h73)) rfl ?_)
              refine s_op (o_assign (v := (.bool false)) rfl ?_)
              refine s_nil ?_
              refine t_norm (hK72 _ _ ?_)
              refine c_false rfl rfl ?_
              refine wp_seq_k fun K98 hK98 => ?_
              refine c_region ?_
              refine s_op (o_fieldAddr (k := 0) (fun _ => by kernel_rfl) rfl ?_)
              refine s_op (o_load1 (v := (.bool v.1)) Tryd.underlying4 rfl rfl hH42 (seg_sub 1 rfl) (CellsAt.one rfl) ?_)
              refine s_op (o_move (v := (.bool v.1)) rfl ?_)
              refine s_on 52 rfl (congrArg Value.bool h73_n) (o_move (v := (.bool ((getC l key).1))) rfl ?_)
              refine s_on 52 rfl (congrArg Value.bool h73_n) (o_not rfl ?_)
              refine s_op (o_pick_t (u := (.bool (!((getC l key).1)))) ((rfl : _ = _).trans (congrArg Value.bool h73_n)) rfl ?_)
              refine s_op (o_move (v := (.bool (!((getC l key).1)))) rfl ?_)
              rcases Bool.eq_false_or_eq_true (!((getC l key).1)) with h99 | h99
              · -- !((getC l key).1)
                have h99_n : ((getC l key).1) = false := by simpa using h99
                refine s_on 56 rfl (congrArg Value.bool h99) (o_fieldAddr (k := 2) (fun _ => by kernel_rfl) rfl ?_)
                refine s_on 56 rfl (congrArg Value.bool h99) (o_load1 (v := v_l) Tryd.underlying22 rfl rfl hH42 (seg_sub 2 rfl) (CellsAt.one rfl) ?_)
                refine s_on 56 rfl (congrArg Value.bool h99) (o_lenS Tryd.underlying22 rfl h_l ?_)
                refine s_on 56 rfl (congrArg Value.bool h99) (o_eql (a := ((l.length : Nat) : Int)) (b := 8) rfl rfl ?_)
                refine s_op (o_pick_t (u := (.bool (decide (((l.length : Nat) : Int) = 8)))) ((rfl : _ = _).trans (congrArg Value.bool h99)) rfl ?_)
                refine s_op (o_assign (v := (.bool (decide (((l.length : Nat) : Int) = 8)))) rfl ?_)
                refine s_nil ?_
                refine t_norm (hK98 _ _ ?_)
                refine c_cond rfl (fun h100 => ?_) (fun h100 => ?_)
                · -- ((l.length : Nat) : Int) = 8
                  refine wp_seq_k fun K101 hK101 => ?_
                  refine c_region ?_
                  refine s_op (o_sight (v := (.agg #[(.int .i64 0), (.int .i64 0), (.slice none 0 0)])) (fun _ => by kernel_rfl) ?_)
                  refine s_eff (o_storeN (vs := [(.int .i64 0), (.int .i64 0), (.slice none 0 0)]) (c' := #[(.int .i64 0), (.int .i64 0), (.slice none 0 0)]) ti24 rfl rfl rfl rfl (by intro u hu; simp only [List.mem_cons, List.not_mem_nil, or_false] at hu; rcases hu with rfl | rfl | rfl <;> first | rfl) (by simp) (by kernel_rfl) (hH42.front 0 rfl) fun w102 hH103 => ?_)
                  refine s_op (o_assign (v := (.int .i64 4)) rfl ?_)
                  refine s_nil ?_
                  refine t_norm (hK101 _ _ ?_)
                  refine wp_ret ?_
                  refine b_ret (t_ret (c_retC2 Tryd.results17 rfl (run_loadVarN (cs := [(.int .i64 0), (.int .i64 0), (.slice none 0 0)]) Tryd.underlying24 rfl ti24 hH103 (seg_sub 0 rfl) (CellsAt.one rfl)) (x := (.int .i64 4)) rfl ?_))
                  have hv1_ : v.1 = true := by simpa using h73
                  have hgc_ : (getC l key).1 = false := by simpa using h99
                  rw [getC_has] at hgc_
                  have hE_ : setE no gsn l key v g = 4 := by rw [hok_]; simp [hv1_, hgc_, h100]; try omega
                  have q104 : (setNo no gsn l key v g) = 0 := by unfold setNo; rw [if_neg (by rw [hE_]; decide)]
                  have q105 : (setG no gsn l key v g) = 0 := by unfold setG; rw [if_neg (by rw [hE_]; decide)]
                  have q106 : (setL no gsn l key v g) = ([] : List Cel) := by unfold setL; rw [if_neg (by rw [hE_]; decide)]
                  have q107 : (setE no gsn l key v g) = 4 := by exact hE_
                  have hH108 : Has E w102 [[], R] := (Has.nil (hH103.front 3 rfl)).first 2 rfl
                  exact ⟨_, _, by rw [q104, q105]; rw [q107], (by rw [q106]; exact (Own.nil 45 2)), hH108⟩
                · -- not: ((l.length : Nat) : Int) = 8
                  refine wp_skip ?_
                  refine b_norm ?_
                  refine t_norm (hK15 _ _ ?_)
                  refine wp_seq_k fun K109 hK109 => ?_
                  refine c_region ?_
                  refine s_op (o_loadN (cs := [(.int .i64 no), (.int .i64 gsn), v_l]) Tryd.underlying24 rfl ti24 rfl hH42 (seg_sub 2 rfl) (CellsAt.one rfl) ?_)
                  refine s_op (o_move (v := (S key)) rfl ?_)
                  refine s_op (o_loadN (cs := [(.bool v.1), (S v.2)]) Tryd.underlying29 rfl ti29 rfl hH42 (seg_sub 1 rfl) (CellsAt.one rfl) ?_)
                  refine s_op (o_move (v := (.int .i64 g)) rfl ?_)
                  refine s_op (o_callf (vs := #[(.agg #[(.int .i64 no), (.int .i64 gsn), v_l]), (S key), (.agg #[(.bool v.1), (S v.2)]), (.int .i64 g)]) ca46 rfl (args4 rfl rfl rfl rfl) (r11put_c (no := no) (gsn := gsn) (l := l) (key := key) (v := (v.1, v.2)) (g := g) hH42.all (h_l.mono (seg_sub 3 rfl)) (by first | omega | (simp only []; omega) | (simp; done) | (simp; omega))) ?_)
                  rintro _ w115 ⟨v110, s111, rfl, ho112, hX113⟩
                  refine ⟨_, rfl, ?_⟩
                  have hH114 : Has E w115 [s111, [Hp.one b8 (.cells #[(.int .i64 0), (.int .i64 0), (.slice none 0 0)] 24 (0, 0))], [Hp.one b5 (.cells #[(.bool v.1), (S v.2)] 29 (0, 0))], [Hp.one b2 (.cells #[(.int .i64 no), (.int .i64 gsn), v_l] 24 (0, 0))], R] := hX113.of_all1
                  refine s_eff (o_storeN (vs := [(.int .i64 no), (.int .i64 g), v110]) (c' := #[(.int .i64 no), (.int .i64 g), v110]) ti24 rfl rfl rfl rfl (by intro u hu; simp only [List.mem_cons, List.not_mem_nil, or_false] at hu; rcases hu with rfl | rfl | rfl <;> first | rfl | exact ho112.one) (by simp) (by kernel_rfl) (hH114.front 1 rfl) fun w116 hH117 => ?_)
                  refine s_op (o_assign (v := (.int .i64 0)) rfl ?_)
                  refine s_nil ?_
                  refine t_norm (hK109 _ _ ?_)
                  refine wp_ret ?_
                  refine c_retC2 Tryd.results17 rfl (run_loadVarN (cs := [(.int .i64 no), (.int .i64 g), v110]) Tryd.underlying24 rfl ti24 hH117 (seg_sub 0 rfl) (CellsAt.one rfl)) (x := (.int .i64 0)) rfl ?_
                  have hv1_ : v.1 = true := by simpa using h73
                  have hgc_ : (getC l key).1 = false := by simpa using h99
                  rw [getC_has] at hgc_
                  have hE_ : setE no gsn l key v g = 0 := by rw [hok_]; simp [hv1_, hgc_, h100]; try omega
                  have q118 : (setNo no gsn l key v g) = no := by unfold setNo; rw [if_pos hE_]
                  have q119 : (setG no gsn l key v g) = g := by unfold setG; rw [if_pos hE_]
                  have q120 : (setL no gsn l key v g) = (putL key (v.1, v.2).2 (!(v.1, v.2).1) l) := by unfold setL; rw [if_pos hE_]; exact (put_eq hs (by first | exact .inl hv1_ | exact .inr hgc_)).symm
                  have q121 : (setE no gsn l key v g) = 0 := by exact hE_
                  have hH122 : Has E w116 [s111, R] := ((hH117.front 4 rfl).front 2 rfl).first 2 rfl
                  exact ⟨_, _, by rw [q118, q119]; rw [q121], (by rw [q120]; exact ho112), hH122⟩
              · -- not: !((getC l key).1)
                have h99_n : ((getC l key).1) = true := by simpa using h99
                refine s_off (b' := false) 56 rfl (congrArg Value.bool h99) rfl ?_
                refine s_off (b' := false) 56 rfl (congrArg Value.bool h99) rfl ?_
                refine s_off (b' := false) 56 rfl (congrArg Value.bool h99) rfl ?_
                refine s_off (b' := false) 56 rfl (congrArg Value.bool h99) rfl ?_
                refine s_op (o_pick_f (u := (.bool false)) ((rfl : _ = _).trans (congrArg Value.bool h99)) rfl ?_)
                refine s_op (o_assign (v := (.bool false)) rfl ?_)
                refine s_nil ?_
                refine t_norm (hK98 _ _ ?_)
                refine c_false rfl rfl ?_
                refine wp_skip ?_
                refine b_norm ?_
                refine t_norm (hK15 _ _ ?_)
                refine wp_seq_k fun K123 hK123 => ?_
                refine c_region ?_
                refine s_op (o_loadN (cs := [(.int .i64 no), (.int .i64 gsn), v_l]) Tryd.underlying24 rfl ti24 rfl hH42 (seg_sub 2 rfl) (CellsAt.one rfl) ?_)
                refine s_op (o_move (v := (S key)) rfl ?_)
                refine s_op (o_loadN (cs := [(.bool v.1), (S v.2)]) Tryd.underlying29 rfl ti29 rfl hH42 (seg_sub 1 rfl) (CellsAt.one rfl) ?_)
                refine s_op (o_move (v := (.int .i64 g)) rfl ?_)
                refine s_op (o_callf (vs := #[(.agg #[(.int .i64 no), (.int .i64 gsn), v_l]), (S key), (.agg #[(.bool v.1), (S v.2)]), (.int .i64 g)]) ca46 rfl (args4 rfl rfl rfl rfl) (r11put_c (no := no) (gsn := gsn) (l := l) (key := key) (v := (v.1, v.2)) (g := g) hH42.all (h_l.mono (seg_sub 3 rfl)) (by first | omega | (simp only []; omega) | (simp; done) | (simp; omega))) ?_)
                rintro _ w129 ⟨v124, s125, rfl, ho126, hX127⟩
                refine ⟨_, rfl, ?_⟩
                have hH128 : Has E w129 [s125, [Hp.one b8 (.cells #[(.int .i64 0), (.int .i64 0), (.slice none 0 0)] 24 (0, 0))], [Hp.one b5 (.cells #[(.bool v.1), (S v.2)] 29 (0, 0))], [Hp.one b2 (.cells #[(.int .i64 no), (.int .i64 gsn), v_l] 24 (0, 0))], R] := hX127.of_all1
                refine s_eff (o_storeN (vs := [(.int .i64 no), (.int .i64 g), v124]) (c' := #[(.int .i64 no), (.int .i64 g), v124]) ti24 rfl rfl rfl rfl (by intro u hu; simp only [List.mem_cons, List.not_mem_nil, or_false] at hu; rcases hu with rfl | rfl | rfl <;> first | rfl | exact ho126.one) (by simp) (by kernel_rfl) (hH128.front 1 rfl) fun w130 hH131 => ?_)
                refine s_op (o_assign (v := (.int .i64 0)) rfl ?_)
                refine s_nil ?_
                refine t_norm (hK123 _ _ ?_)
                refine wp_ret ?_
                refine c_retC2 Tryd.results17 rfl (run_loadVarN (cs := [(.int .i64 no), (.int .i64 g), v124]) Tryd.underlying24 rfl ti24 hH131 (seg_sub 0 rfl) (CellsAt.one rfl)) (x := (.int .i64 0)) rfl ?_
                have hv1_ : v.1 = true := by simpa using h73
                have hgc_ : (getC l key).1 = true := by simpa using h99
                rw [getC_has] at hgc_
                have hE_ : setE no gsn l key v g = 0 := by rw [hok_]; simp [hv1_, hgc_]; try omega
                have q132 : (setNo no gsn l key v g) = no := by unfold setNo; rw [if_pos hE_]
                have q133 : (setG no gsn l key v g) = g := by unfold setG; rw [if_pos hE_]
                have q134 : (setL no gsn l key v g) = (putL key (v.1, v.2).2 (!(v.1, v.2).1) l) := by unfold setL; rw [if_pos hE_]; exact (put_eq hs (by first | exact .inl hv1_ | exact .inr hgc_)).symm
                have q135 : (setE no gsn l key v g) = 0 := by exact hE_
                have hH136 : Has E w130 [s125, R] := ((hH131.front 4 rfl).front 2 rfl).first 2 rfl
                exact ⟨_, _, by rw [q132, q133]; rw [q135], (by rw [q134]; exact ho126), hH136⟩
set_option maxHeartbeats 4000000 in
theorem r11same_c {E w : World} {R : List Hp} {noa : Int} {gsna : Int} {v_la : Value} {la : List Cel} {nob : Int} {gsnb : Int} {v_lb : Value} {lb : List Cel}  (hH : Has E w [R]) (h_la : Sl R 2 v_la la.length (la.flatMap ceC)) (h_lb : Sl R 2 v_lb lb.length (lb.flatMap ceC)) :
    Calls Tryd.prog 13 #[(.agg #[(.int .i64 noa), (.int .i64 gsna), v_la]), (.agg #[(.int .i64 nob), (.int .i64 gsnb), v_lb])] w fun e w' => e = .returned (.bool (decide (noa = nob ∧ gsna = gsnb ∧ la = lb))) ∧ Has E w' [R] := by
  have hna_ := h_la.le
  have hnb_ := h_lb.le
  refine c_enter (args := [(.agg #[(.int .i64 noa), (.int .i64 gsna), v_la]), (.agg #[(.int .i64 nob), (.int .i64 gsnb), v_lb])]) Tryd.func13 rfl Tryd.ntmps13 (by simp) ?_
  refine wp_seq_k fun K1 hK1 => ?_
  refine c_region ?_
  refine s_op (o_box (cs := #[(.int .i64 noa), (.int .i64 gsna), v_la]) rfl rfl hH fun b2 w3 hH4 => ?_)
  refine s_op (o_box (cs := #[(.int .i64 nob), (.int .i64 gsnb), v_lb]) rfl rfl hH4 fun b5 w6 hH7 => ?_)
  refine s_op (o_assign (v := (.bool false)) rfl ?_)
  refine s_nil ?_
  refine t_norm (hK1 _ _ ?_)
  refine wp_seq_k fun K8 hK8 => ?_
  refine wp_seq_k fun K9 hK9 => ?_
  refine c_region ?_
  refine s_op (o_fieldAddr (k := 0) (fun _ => by kernel_rfl) rfl ?_)
  refine s_op (o_load1 (v := (.int .i64 noa)) Tryd.underlying3 rfl rfl hH7 (seg_sub 1 rfl) (CellsAt.one rfl) ?_)
  refine s_op (o_fieldAddr (k := 0) (fun _ => by kernel_rfl) rfl ?_)
  refine s_op (o_load1 (v := (.int .i64 nob)) Tryd.underlying3 rfl rfl hH7 (seg_sub 0 rfl) (CellsAt.one rfl) ?_)
  refine s_op (o_neq (a := noa) (b := nob) rfl rfl ?_)
  refine s_op (o_move (v := (.bool (decide (noa ≠ nob)))) rfl ?_)
  by_cases h10 : noa ≠ nob
  · -- noa ≠ nob
    refine s_off (b' := true) 11 rfl (congrArg Value.bool (decide_eq_true h10)) rfl ?_
    refine s_off (b' := true) 11 rfl (congrArg Value.bool (decide_eq_true h10)) rfl ?_
    refine s_off (b' := true) 11 rfl (congrArg Value.bool (decide_eq_true h10)) rfl ?_
    refine s_off (b' := true) 11 rfl (congrArg Value.bool (decide_eq_true h10)) rfl ?_
    refine s_off (b' := true) 11 rfl (congrArg Value.bool (decide_eq_true h10)) rfl ?_
    refine s_op (o_pick_t (u := (.bool true)) ((rfl : _ = _).trans (congrArg Value.bool (decide_eq_true h10))) rfl ?_)
    refine s_op (o_move (v := (.bool true)) rfl ?_)
    refine s_off (b' := true) 18 rfl rfl rfl ?_
    refine s_off (b' := true) 18 rfl rfl rfl ?_
    refine s_off (b' := true) 18 rfl rfl rfl ?_
    refine s_off (b' := true) 18 rfl rfl rfl ?_
    refine s_off (b' := true) 18 rfl rfl rfl ?_
    refine s_off (b' := true) 18 rfl rfl rfl ?_
    refine s_off (b' := true) 18 rfl rfl rfl ?_
    refine s_op (o_pick_t (u := (.bool true)) rfl rfl ?_)
    refine s_nil ?_
    refine t_norm (hK9 _ _ ?_)
    refine c_true rfl rfl ?_
    refine wp_seq_k fun K11 hK11 => ?_
    refine c_region ?_
    refine s_op (o_assign (v := (.bool false)) rfl ?_)
    refine s_nil ?_
    refine t_norm (hK11 _ _ ?_)
    refine wp_ret ?_
    refine t_ret (c_ret1 Tryd.results13  (v := (.bool false)) rfl ?_)
    have q12 : (decide (noa = nob ∧ gsna = gsnb ∧ la = lb)) = false := by exact (decide_eq_false (fun g_ => by first | omega | (have := congrArg List.length g_.2.2; omega)))
    have hH13 : Has E w6 [R] := (hH7.front 2 rfl).first 1 rfl
    exact ⟨by rw [q12], hH13⟩
  · -- not: noa ≠ nob
    refine s_on 11 rfl (congrArg Value.bool (decide_eq_false h10)) (o_fieldAddr (k := 1) (fun _ => by kernel_rfl) rfl ?_)
    refine s_on 11 rfl (congrArg Value.bool (decide_eq_false h10)) (o_load1 (v := (.int .i64 gsna)) Tryd.underlying3 rfl rfl hH7 (seg_sub 1 rfl) (CellsAt.one rfl) ?_)
    refine s_on 11 rfl (congrArg Value.bool (decide_eq_false h10)) (o_fieldAddr (k := 1) (fun _ => by kernel_rfl) rfl ?_)
    refine s_on 11 rfl (congrArg Value.bool (decide_eq_false h10)) (o_load1 (v := (.int .i64 gsnb)) Tryd.underlying3 rfl rfl hH7 (seg_sub 0 rfl) (CellsAt.one rfl) ?_)
    refine s_on 11 rfl (congrArg Value.bool (decide_eq_false h10)) (o_neq (a := gsna) (b := gsnb) rfl rfl ?_)
    refine s_op (o_pick_f (u := (.bool (decide (gsna ≠ gsnb)))) ((rfl : _ = _).trans (congrArg Value.bool (decide_eq_false h10))) rfl ?_)
    refine s_op (o_move (v := (.bool (decide (gsna ≠ gsnb)))) rfl ?_)
    by_cases h14 : gsna ≠ gsnb
    · -- gsna ≠ gsnb
      refine s_off (b' := true) 18 rfl (congrArg Value.bool (decide_eq_true h14)) rfl ?_
      refine s_off (b' := true) 18 rfl (congrArg Value.bool (decide_eq_true h14)) rfl ?_
      refine s_off (b' := true) 18 rfl (congrArg Value.bool (decide_eq_true h14)) rfl ?_
      refine s_off (b' := true) 18 rfl (congrArg Value.bool (decide_eq_true h14)) rfl ?_
      refine s_off (b' := true) 18 rfl (congrArg Value.bool (decide_eq_true h14)) rfl ?_
      refine s_off (b' := true) 18 rfl (congrArg Value.bool (decide_eq_true h14)) rfl ?_
      refine s_off (b' := true) 18 rfl (congrArg Value.bool (decide_eq_true h14)) rfl ?_
      refine s_op (o_pick_t (u := (.bool true)) ((rfl : _ = _).trans (congrArg Value.bool (decide_eq_true h14))) rfl ?_)
      refine s_nil ?_
      refine t_norm (hK9 _ _ ?_)
      refine c_true rfl rfl ?_
      refine wp_seq_k fun K15 hK15 => ?_
      refine c_region ?_
      refine s_op (o_assign (v := (.bool false)) rfl ?_)
      refine s_nil ?_
      refine t_norm (hK15 _ _ ?_)
      refine wp_ret ?_
      refine t_ret (c_ret1 Tryd.results13  (v := (.bool false)) rfl ?_)
      have q16 : (decide (noa = nob ∧ gsna = gsnb ∧ la = lb)) = false := by exact (decide_eq_false (fun g_ => by first | omega | (have := congrArg List.length g_.2.2; omega)))
      have hH17 : Has E w6 [R] := (hH7.front 2 rfl).first 1 rfl
      exact ⟨by rw [q16], hH17⟩
    · -- not: gsna ≠ gsnb
      refine s_on 18 rfl (congrArg Value.bool (decide_eq_false h14)) (o_fieldAddr (k := 2) (fun _ => by kernel_rfl) rfl ?_)
      refine s_on 18 rfl (congrArg Value.bool (decide_eq_false h14)) (o_load1 (v := v_la) Tryd.underlying22 rfl rfl hH7 (seg_sub 1 rfl) (CellsAt.one rfl) ?_)
      refine s_on 18 rfl (congrArg Value.bool (decide_eq_false h14)) (o_lenS Tryd.underlying22 rfl h_la ?_)
      refine s_on 18 rfl (congrArg Value.bool (decide_eq_false h14)) (o_fieldAddr (k := 2) (fun _ => by kernel_rfl) rfl ?_)
      refine s_on 18 rfl (congrArg Value.bool (decide_eq_false h14)) (o_load1 (v := v_lb) Tryd.underlying22 rfl rfl hH7 (seg_sub 0 rfl) (CellsAt.one rfl) ?_)
      refine s_on 18 rfl (congrArg Value.bool (decide_eq_false h14)) (o_lenS Tryd.underlying22 rfl h_lb ?_)
      refine s_on 18 rfl (congrArg Value.bool (decide_eq_false h14)) (o_neq (a := ((la.length : Nat) : Int)) (b := ((lb.length : Nat) : Int)) rfl rfl ?_)
      refine s_op (o_pick_f (u := (.bool (decide (((la.length : Nat) : Int) ≠ ((lb.length : Nat) : Int))))) ((rfl : _ = _).trans (congrArg Value.bool (decide_eq_false h14))) rfl ?_)
      refine s_nil ?_
      refine t_norm (hK9 _ _ ?_)
      refine c_cond rfl (fun h18 => ?_) (fun h18 => ?_)
      · -- ((la.length : Nat) : Int) ≠ ((lb.length : Nat) : Int)
        refine wp_seq_k fun K19 hK19 => ?_
        refine c_region ?_
        refine s_op (o_assign (v := (.bool false)) rfl ?_)
        refine s_nil ?_
        refine t_norm (hK19 _ _ ?_)
        refine wp_ret ?_
        refine t_ret (c_ret1 Tryd.results13  (v := (.bool false)) rfl ?_)
        have q20 : (decide (noa = nob ∧ gsna = gsnb ∧ la = lb)) = false := by exact (decide_eq_false (fun g_ => by first | omega | (have := congrArg List.length g_.2.2; omega)))
        have hH21 : Has E w6 [R] := (hH7.front 2 rfl).first 1 rfl
        exact ⟨by rw [q20], hH21⟩
      · -- not: ((la.length : Nat) : Int) ≠ ((lb.length : Nat) : Int)
        refine wp_skip ?_
        refine t_norm (hK8 _ _ ?_)
        refine wp_seq_k fun K22 hK22 => ?_
        refine wp_seq_k fun K23 hK23 => ?_
        refine c_region ?_
        refine s_op (o_assign (v := (.int .i64 0)) rfl ?_)
        refine s_nil ?_
        refine t_norm (hK23 _ _ ?_)
        refine wp_block ?_
        let I25 : Nat → (Nat → Value) → World → Prop := fun n__ r__ w__ => ∃ (k : Nat), n__ = la.length - k ∧ Has E w__ [[Hp.one b5 (.cells #[(.int .i64 nob), (.int .i64 gsnb), v_lb] 24 (0, 0))], [Hp.one b2 (.cells #[(.int .i64 noa), (.int .i64 gsna), v_la] 24 (0, 0))], R] ∧ (k ≤ la.length) ∧ (∀ j, j < k → la[j]? = lb[j]?) ∧ r__ 0 = (.agg #[(.int .i64 noa), (.int .i64 gsna), v_la]) ∧ r__ 1 = (.agg #[(.int .i64 nob), (.int .i64 gsnb), v_lb]) ∧ r__ 2 = (.pointer (some ⟨b2, 0, none⟩)) ∧ r__ 3 = (.pointer (some ⟨b5, 0, none⟩)) ∧ r__ 5 = (.int .i64 (k : Int)) ∧ r__ 26 = (.bool (decide (((la.length : Nat) : Int) ≠ ((lb.length : Nat) : Int))))
        refine c_loop I25 _ ⟨0, rfl, hH7, Nat.zero_le _, fun j hj => absurd hj (Nat.not_lt_zero j), rfl, rfl, rfl, rfl, rfl, rfl⟩ ?_
        rintro n_ r28 w26 ⟨k, rfl, hH27, hk, he, e24_0, e24_1, e24_2, e24_3, e24_5, e24_26⟩
        refine wp_seq_k fun K29 hK29 => ?_
        refine wp_seq_k fun K30 hK30 => ?_
        refine c_region ?_
        refine s_op (o_move (v := (.int .i64 (k : Int))) e24_5 ?_)
        refine s_op (o_fieldAddr (k := 2) (fun _ => by kernel_rfl) e24_2 ?_)
        refine s_op (o_load1 (v := v_la) Tryd.underlying22 rfl rfl hH27 (seg_sub 1 rfl) (CellsAt.one rfl) ?_)
        refine s_op (o_lenS Tryd.underlying22 rfl h_la ?_)
        refine s_op (o_lss (a := (k : Int)) (b := ((la.length : Nat) : Int)) rfl rfl ?_)
        refine s_nil ?_
        refine t_norm (hK30 _ _ ?_)
        refine c_cond rfl (fun h31 => ?_) (fun h31 => ?_)
        · -- (k : Int) < ((la.length : Nat) : Int)
          refine wp_skip ?_
          refine t_norm (hK29 _ _ ?_)
          refine wp_seq_k fun K32 hK32 => ?_
          refine wp_block ?_
          refine wp_seq_k fun K33 hK33 => ?_
          refine Rest.region mixed (by kernel_rfl) ?_
          have hH34 : Has E { w26 with drawn := w26.drawn + 1 } [[Hp.one b5 (.cells #[(.int .i64 nob), (.int .i64 gsnb), v_lb] 24 (0, 0))], [Hp.one b2 (.cells #[(.int .i64 noa), (.int .i64 gsna), v_la] 24 (0, 0))], R] := Has0.drew hH27 _
          refine Rest.phaseA (fun w_ => Has E w_ [[Hp.one b5 (.cells #[(.int .i64 nob), (.int .i64 gsnb), v_lb] 24 (0, 0))], [Hp.one b2 (.cells #[(.int .i64 noa), (.int .i64 gsna), v_la] 24 (0, 0))], R]) 0 10 10 rfl (by decide) (by kernel_rfl) ?_
          refine a_op 0 rfl (by kernel_rfl) (fun w_ h_ => o_fieldAddr (k := 2) (fun _ => by kernel_rfl) e24_2 ⟨rfl, rfl⟩) ?_
          refine a_op 1 rfl (by kernel_rfl) (fun w_ h_ => o_load1 (v := v_la) Tryd.underlying22 rfl rfl h_ (seg_sub 1 rfl) (CellsAt.one rfl) ⟨rfl, rfl⟩) ?_
          refine a_op 2 rfl (by kernel_rfl) (fun w_ h_ => o_move (v := (.int .i64 (k : Int))) e24_5 ⟨rfl, rfl⟩) ?_
          obtain ⟨x38, hx39⟩ : ∃ x_, la[((k : Int)).toNat]? = some x_ := get_some (by omega)
          obtain ⟨b35, o36, hc37, ho40⟩ := ix_exF ceC_len Tryd.underlying22 ti45 h_la (by omega) hx39
          refine a_op 3 rfl (by kernel_rfl) (fun w_ h_ => ho40 rfl rfl ⟨rfl, rfl⟩) ?_
          refine a_op 4 rfl (by kernel_rfl) (fun w_ h_ => o_loadN (cs := [(S x38.1), (S x38.2)]) Tryd.underlying45 rfl ti45 rfl h_ (seg_sub 2 rfl) hc37 ⟨rfl, rfl⟩) ?_
          refine a_op 5 rfl (by kernel_rfl) (fun w_ h_ => o_fieldAddr (k := 2) (fun _ => by kernel_rfl) e24_3 ⟨rfl, rfl⟩) ?_
          refine a_op 6 rfl (by kernel_rfl) (fun w_ h_ => o_load1 (v := v_lb) Tryd.underlying22 rfl rfl h_ (seg_sub 0 rfl) (CellsAt.one rfl) ⟨rfl, rfl⟩) ?_
          refine a_op 7 rfl (by kernel_rfl) (fun w_ h_ => o_move (v := (.int .i64 (k : Int))) e24_5 ⟨rfl, rfl⟩) ?_
          obtain ⟨x44, hx45⟩ : ∃ x_, lb[((k : Int)).toNat]? = some x_ := get_some (by omega)
          obtain ⟨b41, o42, hc43, ho46⟩ := ix_exF ceC_len Tryd.underlying22 ti45 h_lb (by omega) hx45
          refine a_op 8 rfl (by kernel_rfl) (fun w_ h_ => ho46 rfl rfl ⟨rfl, rfl⟩) ?_
          refine a_op 9 rfl (by kernel_rfl) (fun w_ h_ => o_loadN (cs := [(S x44.1), (S x44.2)]) Tryd.underlying45 rfl ti45 rfl h_ (seg_sub 2 rfl) hc43 ⟨rfl, rfl⟩) ?_
          refine a_done (by kernel_rfl) hH34 ?_
          refine r_op 10 rfl (by kernel_rfl) (o_neq45 x38.1 x38.2 x44.1 x44.2 rfl rfl ?_)
          refine Rest.done (by kernel_rfl) ?_
          refine t_norm (hK33 _ _ ?_)
          refine c_condb rfl (fun h47 => ?_) (fun h47 => ?_)
          · -- !(eqv45 x38.1 x38.2 x44.1 x44.2)
            have h47_n : (eqv45 x38.1 x38.2 x44.1 x44.2) = false := by simpa using h47
            refine wp_seq_k fun K48 hK48 => ?_
            refine c_region ?_
            refine s_op (o_assign (v := (.bool false)) rfl ?_)
            refine s_nil ?_
            refine t_norm (hK48 _ _ ?_)
            refine wp_ret ?_
            refine b_ret (t_ret (t_ret (b_ret (t_ret (c_ret1 Tryd.results13  (v := (.bool false)) rfl ?_)))))
            have q49 : (decide (noa = nob ∧ gsna = gsnb ∧ la = lb)) = false := by exact (decide_eq_false (fun g_ => same_not hx39 hx45 (fun e_ => by subst e_; exact absurd ((eqv45_iff _ _ _ _).2 ⟨rfl, rfl⟩) (by simpa using h47)) g_.2.2))
            have hH50 : Has E { w26 with drawn := w26.drawn + 1 } [R] := (hH34.front 2 rfl).first 1 rfl
            exact ⟨by rw [q49], hH50⟩
          · -- not: !(eqv45 x38.1 x38.2 x44.1 x44.2)
            have h47_n : (eqv45 x38.1 x38.2 x44.1 x44.2) = true := by simpa using h47
            refine wp_skip ?_
            refine b_norm ?_
            refine t_norm (hK32 _ _ ?_)
            refine c_region ?_
            refine s_op (o_move (v := (.int .i64 (k : Int))) e24_5 ?_)
            refine s_op (o_add (a := (k : Int)) (b := 1) rfl rfl (w64 (by omega) (by omega)) ?_)
            refine s_op (o_assign (v := (.int .i64 ((k : Int) + 1))) rfl ?_)
            refine s_nil ?_
            refine t_norm ⟨la.length - (k + 1), _, rfl, ?_, ?_⟩
            · omega
            · exact ⟨(k + 1), rfl, hH34, (by omega), (same_next he (show la[k]? = some _ from hx39) (show lb[k]? = some _ from hx45) (by have h_ := h47; have e_ := (eqv45_iff _ _ _ _).1 (by simpa using h_); exact Prod.ext e_.1 e_.2)), e24_0, e24_1, e24_2, e24_3, rfl, e24_26⟩
        · -- not: (k : Int) < ((la.length : Nat) : Int)
          refine wp_exit ?_
          refine t_exit (t_exit (x_in (?_)))
          refine t_norm (hK22 _ _ ?_)
          refine wp_seq_k fun K51 hK51 => ?_
          refine c_region ?_
          refine s_op (o_assign (v := (.bool true)) rfl ?_)
          refine s_nil ?_
          refine t_norm (hK51 _ _ ?_)
          refine wp_ret ?_
          refine c_ret1 Tryd.results13  (v := (.bool true)) rfl ?_
          have q52 : (decide (noa = nob ∧ gsna = gsnb ∧ la = lb)) = true := by exact (decide_eq_true ⟨by omega, by omega, same_all he (by omega) (by omega)⟩)
          have hH53 : Has E w26 [R] := (hH27.front 2 rfl).first 1 rfl
          exact ⟨by rw [q52], hH53⟩
set_option maxHeartbeats 4000000 in
theorem r11great_c {E w : World} {R : List Hp} {no : Int} {gsn : Int} {v_l : Value} {l : List Cel}  (hH : Has E w [R]) (h_l : Sl R 2 v_l l.length (l.flatMap ceC)) :
    Calls Tryd.prog 8 #[(.agg #[(.int .i64 no), (.int .i64 gsn), v_l])] w fun e w' => ∃ (gb : Bool), e = .returned (.bool gb) ∧ (gb = false → l.length ≤ 20 ∧ ∀ c ∈ l, c.1.length ≤ 100 ∧ c.2.length ≤ 100) ∧ Has E w' [R] := by
  have hn_ := h_l.le
  refine c_enter (args := [(.agg #[(.int .i64 no), (.int .i64 gsn), v_l])]) Tryd.func8 rfl Tryd.ntmps8 (by simp) ?_
  refine wp_seq_k fun K1 hK1 => ?_
  refine c_region ?_
  refine s_op (o_box (cs := #[(.int .i64 no), (.int .i64 gsn), v_l]) rfl rfl hH fun b2 w3 hH4 => ?_)
  refine s_op (o_assign (v := (.bool false)) rfl ?_)
  refine s_nil ?_
  refine t_norm (hK1 _ _ ?_)
  refine wp_seq_k fun K5 hK5 => ?_
  refine wp_seq_k fun K6 hK6 => ?_
  refine c_region ?_
  refine s_op (o_fieldAddr (k := 2) (fun _ => by kernel_rfl) rfl ?_)
  refine s_op (o_load1 (v := v_l) Tryd.underlying22 rfl rfl hH4 (seg_sub 0 rfl) (CellsAt.one rfl) ?_)
  refine s_op (o_lenS Tryd.underlying22 rfl h_l ?_)
  refine s_op (o_gtr (a := ((l.length : Nat) : Int)) (b := 20) rfl rfl ?_)
  refine s_nil ?_
  refine t_norm (hK6 _ _ ?_)
  refine c_cond rfl (fun h7 => ?_) (fun h7 => ?_)
  · -- 20 < ((l.length : Nat) : Int)
    refine wp_seq_k fun K8 hK8 => ?_
    refine c_region ?_
    refine s_op (o_assign (v := (.bool true)) rfl ?_)
    refine s_nil ?_
    refine t_norm (hK8 _ _ ?_)
    refine wp_ret ?_
    refine t_ret (c_ret1 Tryd.results8  (v := (.bool true)) rfl ?_)
    have hH9 : Has E w3 [R] := (hH4.front 1 rfl).first 1 rfl
    exact ⟨true, rfl, (fun g => by cases g), hH9⟩
  · -- not: 20 < ((l.length : Nat) : Int)
    refine wp_skip ?_
    refine t_norm (hK5 _ _ ?_)
    refine wp_seq_k fun K10 hK10 => ?_
    refine wp_seq_k fun K11 hK11 => ?_
    refine c_region ?_
    refine s_op (o_assign (v := (.int .i64 0)) rfl ?_)
    refine s_nil ?_
    refine t_norm (hK11 _ _ ?_)
    refine wp_block ?_
    let I13 : Nat → (Nat → Value) → World → Prop := fun n__ r__ w__ => ∃ (k : Nat), n__ = l.length - k ∧ Has E w__ [[Hp.one b2 (.cells #[(.int .i64 no), (.int .i64 gsn), v_l] 24 (0, 0))], R] ∧ (k ≤ l.length) ∧ (∀ c ∈ l.take k, c.1.length ≤ 100 ∧ c.2.length ≤ 100) ∧ r__ 0 = (.agg #[(.int .i64 no), (.int .i64 gsn), v_l]) ∧ r__ 1 = (.pointer (some ⟨b2, 0, none⟩)) ∧ r__ 3 = (.int .i64 (k : Int)) ∧ r__ 7 = (.bool (decide (20 < ((l.length : Nat) : Int))))
    refine c_loop I13 _ ⟨0, rfl, hH4, Nat.zero_le _, (by simp), rfl, rfl, rfl, rfl⟩ ?_
    rintro n_ r16 w14 ⟨k, rfl, hH15, hk, hgf, e12_0, e12_1, e12_3, e12_7⟩
    refine wp_seq_k fun K17 hK17 => ?_
    refine wp_seq_k fun K18 hK18 => ?_
    refine c_region ?_
    refine s_op (o_move (v := (.int .i64 (k : Int))) e12_3 ?_)
    refine s_op (o_fieldAddr (k := 2) (fun _ => by kernel_rfl) e12_1 ?_)
    refine s_op (o_load1 (v := v_l) Tryd.underlying22 rfl rfl hH15 (seg_sub 0 rfl) (CellsAt.one rfl) ?_)
    refine s_op (o_lenS Tryd.underlying22 rfl h_l ?_)
    refine s_op (o_lss (a := (k : Int)) (b := ((l.length : Nat) : Int)) rfl rfl ?_)
    refine s_nil ?_
    refine t_norm (hK18 _ _ ?_)
    refine c_cond rfl (fun h19 => ?_) (fun h19 => ?_)
    · -- (k : Int) < ((l.length : Nat) : Int)
      refine wp_skip ?_
      refine t_norm (hK17 _ _ ?_)
      refine wp_seq_k fun K20 hK20 => ?_
      refine wp_block ?_
      refine wp_seq_k fun K21 hK21 => ?_
      refine c_region ?_
      refine s_op (o_fieldAddr (k := 2) (fun _ => by kernel_rfl) e12_1 ?_)
      refine s_op (o_load1 (v := v_l) Tryd.underlying22 rfl rfl hH15 (seg_sub 0 rfl) (CellsAt.one rfl) ?_)
      refine s_op (o_move (v := (.int .i64 (k : Int))) e12_3 ?_)
      obtain ⟨x25, hx26⟩ : ∃ x_, l[((k : Int)).toNat]? = some x_ := get_some (by omega)
      refine s_op (o_indexF ceC_len Tryd.underlying22 ti45 rfl h_l rfl rfl (by omega) hx26 fun b22 o23 hc24 => ?_)
      refine s_op (o_fieldAddr (k := o23) (fun _ => by kernel_rfl) rfl ?_)
      refine s_op (o_load1 (v := (S x25.1)) Tryd.underlying9 rfl rfl hH15 (seg_sub 1 rfl) (CellsAt.field (k := 0) (ds := [(S x25.1)]) hc24 rfl) ?_)
      refine s_op (o_slen Tryd.underlying9 rfl ?_)
      refine s_op (o_gtr (a := (x25.1.length : Int)) (b := 100) rfl rfl ?_)
      refine s_op (o_move (v := (.bool (decide (100 < (x25.1.length : Int))))) rfl ?_)
      by_cases h27 : 100 < (x25.1.length : Int)
      · -- 100 < (x25.1.length : Int)
        refine s_off (b' := true) 23 rfl (congrArg Value.bool (decide_eq_true h27)) rfl ?_
        refine s_off (b' := true) 23 rfl (congrArg Value.bool (decide_eq_true h27)) rfl ?_
        refine s_off (b' := true) 23 rfl (congrArg Value.bool (decide_eq_true h27)) rfl ?_
        refine s_off (b' := true) 23 rfl (congrArg Value.bool (decide_eq_true h27)) rfl ?_
        refine s_off (b' := true) 23 rfl (congrArg Value.bool (decide_eq_true h27)) rfl ?_
        refine s_off (b' := true) 23 rfl (congrArg Value.bool (decide_eq_true h27)) rfl ?_
        refine s_off (b' := true) 23 rfl (congrArg Value.bool (decide_eq_true h27)) rfl ?_
        refine s_off (b' := true) 23 rfl (congrArg Value.bool (decide_eq_true h27)) rfl ?_
        refine s_op (o_pick_t (u := (.bool true)) ((rfl : _ = _).trans (congrArg Value.bool (decide_eq_true h27))) rfl ?_)
        refine s_nil ?_
        refine t_norm (hK21 _ _ ?_)
        refine c_true rfl rfl ?_
        refine wp_seq_k fun K28 hK28 => ?_
        refine c_region ?_
        refine s_op (o_assign (v := (.bool true)) rfl ?_)
        refine s_nil ?_
        refine t_norm (hK28 _ _ ?_)
        refine wp_ret ?_
        refine b_ret (t_ret (t_ret (b_ret (t_ret (c_ret1 Tryd.results8  (v := (.bool true)) rfl ?_)))))
        have hH29 : Has E w14 [R] := (hH15.front 1 rfl).first 1 rfl
        exact ⟨true, rfl, (fun g => by cases g), hH29⟩
      · -- not: 100 < (x25.1.length : Int)
        refine s_on 23 rfl (congrArg Value.bool (decide_eq_false h27)) (o_fieldAddr (k := 2) (fun _ => by kernel_rfl) e12_1 ?_)
        refine s_on 23 rfl (congrArg Value.bool (decide_eq_false h27)) (o_load1 (v := v_l) Tryd.underlying22 rfl rfl hH15 (seg_sub 0 rfl) (CellsAt.one rfl) ?_)
        refine s_on 23 rfl (congrArg Value.bool (decide_eq_false h27)) (o_move (v := (.int .i64 (k : Int))) e12_3 ?_)
        refine s_on 23 rfl (congrArg Value.bool (decide_eq_false h27)) (o_indexF ceC_len Tryd.underlying22 ti45 rfl h_l rfl rfl (by omega) hx26 fun b30 o31 hc32 => ?_)
        refine s_on 23 rfl (congrArg Value.bool (decide_eq_false h27)) (o_fieldAddr (k := o31 + 1) (fun _ => by kernel_rfl) rfl ?_)
        refine s_on 23 rfl (congrArg Value.bool (decide_eq_false h27)) (o_load1 (v := (S x25.2)) Tryd.underlying9 rfl rfl hH15 (seg_sub 1 rfl) (CellsAt.field (k := 1) (ds := [(S x25.2)]) hc32 rfl) ?_)
        refine s_on 23 rfl (congrArg Value.bool (decide_eq_false h27)) (o_slen Tryd.underlying9 rfl ?_)
        refine s_on 23 rfl (congrArg Value.bool (decide_eq_false h27)) (o_gtr (a := (x25.2.length : Int)) (b := 100) rfl rfl ?_)
        refine s_op (o_pick_f (u := (.bool (decide (100 < (x25.2.length : Int))))) ((rfl : _ = _).trans (congrArg Value.bool (decide_eq_false h27))) rfl ?_)
        refine s_nil ?_
        refine t_norm (hK21 _ _ ?_)
        refine c_cond rfl (fun h33 => ?_) (fun h33 => ?_)
        · -- 100 < (x25.2.length : Int)
          refine wp_seq_k fun K34 hK34 => ?_
          refine c_region ?_
          refine s_op (o_assign (v := (.bool true)) rfl ?_)
          refine s_nil ?_
          refine t_norm (hK34 _ _ ?_)
          refine wp_ret ?_
          refine b_ret (t_ret (t_ret (b_ret (t_ret (c_ret1 Tryd.results8  (v := (.bool true)) rfl ?_)))))
          have hH35 : Has E w14 [R] := (hH15.front 1 rfl).first 1 rfl
          exact ⟨true, rfl, (fun g => by cases g), hH35⟩
        · -- not: 100 < (x25.2.length : Int)
          refine wp_skip ?_
          refine b_norm ?_
          refine t_norm (hK20 _ _ ?_)
          refine c_region ?_
          refine s_op (o_move (v := (.int .i64 (k : Int))) e12_3 ?_)
          refine s_op (o_add (a := (k : Int)) (b := 1) rfl rfl (w64 (by omega) (by omega)) ?_)
          refine s_op (o_assign (v := (.int .i64 ((k : Int) + 1))) rfl ?_)
          refine s_nil ?_
          refine t_norm ⟨l.length - (k + 1), _, rfl, ?_, ?_⟩
          · omega
          · exact ⟨(k + 1), rfl, hH15, (by omega), (great_next hgf (show l[k]? = some _ from hx26) (by omega)), e12_0, e12_1, rfl, e12_7⟩
    · -- not: (k : Int) < ((l.length : Nat) : Int)
      refine wp_exit ?_
      refine t_exit (t_exit (x_in (?_)))
      refine t_norm (hK10 _ _ ?_)
      refine wp_seq_k fun K36 hK36 => ?_
      refine c_region ?_
      refine s_op (o_assign (v := (.bool false)) rfl ?_)
      refine s_nil ?_
      refine t_norm (hK36 _ _ ?_)
      refine wp_ret ?_
      refine c_ret1 Tryd.results8  (v := (.bool false)) rfl ?_
      have hH37 : Has E w14 [R] := (hH15.front 1 rfl).first 1 rfl
      have e_ : k = l.length := by omega
      rw [e_, List.take_length] at hgf
      exact ⟨false, rfl, (fun _ => ⟨by omega, hgf⟩), hH37⟩
end Go.Q
namespace Go.Q
theorem own_headf {α : Type} {f : α → List Value} {sz : Nat} (hf : ∀ x, (f x).length = sz) {e : TypeId} {v : Value} {l : List α} {hs : List Hp} (h : Own e sz v l.length (l.flatMap f) hs) {j : Nat} (hj : j ≤ l.length) : Own e sz (headV v j sz) (l.take j).length ((l.take j).flatMap f) hs := by
  rw [List.length_take, Nat.min_eq_left hj, ← flatMap_take f sz hf]
  obtain ⟨hl, ⟨rfl, h0, rfl⟩ | ⟨b, cap, cur, rfl, rfl, hnc, hcm, hsz, ht⟩⟩ := h
  · have : j = 0 := by omega
    subst this
    have e0 : l = [] := List.eq_nil_of_length_eq_zero h0
    subst e0
    exact ⟨by simp, .inl ⟨rfl, rfl, rfl⟩⟩
  · refine ⟨?_, .inr ⟨b, cap, cur, ?_, rfl, by omega, hcm, hsz, ?_⟩⟩
    · rw [List.length_take, hl]; exact Nat.min_eq_left (Nat.mul_le_mul_right _ hj)
    · simp [headV, sliced, add_lit]
    · rw [← ht, List.take_take, Nat.min_eq_left (Nat.mul_le_mul_right _ hj)]
/-- the first i and the last i have changed places -/
def turnd {α : Type} (l rw' : List α) (i : Nat) : Prop := rw'.length = l.length ∧ ∀ m, m < l.length → rw'[m]? = if m < i ∨ l.length ≤ m + i then l[l.length - 1 - m]? else l[m]?
theorem turnd_0 {α : Type} (l : List α) : turnd l l 0 := ⟨rfl, fun m hm => by rw [if_neg (by omega)]⟩
theorem turnd_step {α : Type} {l r : List α} {i : Nat} {j : Int} {x y : α} (h : turnd l r i) (hj : j = (l.length : Int) - 1 - i) (hlt : (i : Int) < j) (hx : r[j.toNat]? = some x) (hy : r[i]? = some y) : turnd l ((r.set i x).set j.toNat y) (i + 1) := by
  obtain ⟨n, rfl⟩ : ∃ n : Nat, j = (n : Int) := ⟨j.toNat, by omega⟩
  rw [Int.toNat_natCast] at hx ⊢
  refine ⟨by simp [h.1], fun m hm => ?_⟩
  have hr := h.1
  rw [h.2 n (by omega), if_neg (by omega)] at hx
  rw [h.2 i (by omega), if_neg (by omega)] at hy
  by_cases e1 : m = n
  · subst e1
    rw [List.getElem?_set_self (by rw [List.length_set]; omega), if_pos (.inr (by omega)), show l.length - 1 - m = i from by omega, hy]
  · rw [List.getElem?_set_ne (Ne.symm e1)]
    by_cases e2 : m = i
    · subst e2
      rw [List.getElem?_set_self (by omega), if_pos (.inl (by omega)), show l.length - 1 - m = n from by omega, hx]
    · rw [List.getElem?_set_ne (Ne.symm e2), h.2 m hm]
      by_cases c : m < i ∨ l.length ≤ m + i
      · rw [if_pos c, if_pos (by omega)]
      · rw [if_neg c, if_neg (by omega)]
theorem turnd_end {α : Type} {l r : List α} {i : Nat} {j : Int} (h : turnd l r i) (hj : j = (l.length : Int) - 1 - i) (hlt : ¬ (i : Int) < j) : r = l.reverse := by
  apply List.ext_getElem?
  intro m
  by_cases hm : m < l.length
  · rw [h.2 m hm, List.getElem?_reverse hm]
    by_cases c : m < i ∨ l.length ≤ m + i
    · rw [if_pos c]
    · rw [if_neg c, show l.length - 1 - m = m from by omega]
  · rw [List.getElem?_eq_none (by rw [h.1]; omega), List.getElem?_eq_none (by rw [List.length_reverse]; omega)]
theorem sl_nil0 {L : List Hp} {sz n cap : Nat} {cs : List Value} (h : Sl L sz (.slice none n cap) n cs) : n = 0 := by
  obtain ⟨q, c, e, h1, h2, h3, h4⟩ := h
  cases e
  rcases Nat.eq_zero_or_pos n with h | h
  · exact h
  · obtain ⟨b, o, e, _⟩ := h4 h; cases e
end Go.Q
namespace Go.Q
open Go.Proofs
set_option linter.unusedVariables false
set_option maxRecDepth 100000
attribute [local irreducible] wpList OK Code.wp
set_option maxHeartbeats 4000000 in
theorem cclone_c_p {E w : World} {R : List Hp} (hH : Has E w [R]) {p : Option Addr} {cap : Nat} {l : List Cel} (hv : Sl R 2 (.slice p l.length cap) l.length (l.flatMap ceC)) (hl : l.length ≤ 1000000) :
    Calls Tryd.prog 42 #[(.slice p l.length cap)] w fun e w' => ∃ v' hs', e = .returned v' ∧ Own 45 2 v' l.length (l.flatMap ceC) hs' ∧ Has E w' [hs', R] := by
  refine c_enter (args := [(.slice p l.length cap)]) Tryd.func42 rfl Tryd.ntmps42 (by simp) ?_
  refine wp_seq_k fun K1 hK1 => ?_
  refine c_region ?_
  refine s_op (o_assign (v := (.slice none 0 0)) rfl ?_)
  refine s_nil ?_
  refine t_norm (hK1 _ _ ?_)
  refine wp_seq_k fun K2 hK2 => ?_
  refine wp_seq_k fun K3 hK3 => ?_
  refine c_region ?_
  refine s_op (o_move (v := (.slice p l.length cap)) rfl ?_)
  refine s_op (o_snil Tryd.underlying22 rfl rfl ?_)
  refine s_nil ?_
  refine t_norm (hK3 _ _ ?_)
  refine c_condb rfl (fun h4 => ?_) (fun h4 => ?_)
  · -- p.isNone
    refine wp_seq_k fun K5 hK5 => ?_
    refine c_region ?_
    refine s_op (o_assign (v := (.slice none 0 0)) rfl ?_)
    refine s_nil ?_
    refine t_norm (hK5 _ _ ?_)
    refine wp_ret ?_
    refine t_ret (c_ret1 Tryd.results42  (v := (.slice none 0 0)) rfl ?_)
    have e0 : l = [] := List.eq_nil_of_length_eq_zero (by obtain rfl : p = none := (by simpa using h4); exact sl_nil0 hv)
    subst e0
    exact ⟨_, _, rfl, Own.nil 45 2, Has.nil hH⟩
  · -- not: p.isNone
    refine wp_skip ?_
    refine t_norm (hK2 _ _ ?_)
    refine wp_seq_k fun K6 hK6 => ?_
    refine c_region ?_
    refine s_op (o_buildSlice (ps := #[]) (cells := #[]) Tryd.underlying22 ti45 (by decide) (parts0) (by kernel_rfl) hH fun b7 w8 hH9 => ?_)
    refine s_op (o_move (v := (.slice p l.length cap)) rfl ?_)
    refine s_op (o_append Tryd.underlying22 ti45 rfl (by decide) rfl (Own.lit (e := 45) (sz := 2) (n := 0) (b := b7) (cur := #[]) rfl (by decide)) rfl hv (hH9.front 0 rfl) (seg_sub 0 rfl) (one_ceC _) (by simp; omega) (by simp; omega) fun v10 s11 w13 ho12 hH14 => ?_)
    have ho12 : Own 45 2 v10 l.length (l.flatMap ceC) s11 := Own.appF (a := []) ho12
    refine s_op (o_assign (v := v10) rfl ?_)
    refine s_nil ?_
    refine t_norm (hK6 _ _ ?_)
    refine wp_ret ?_
    refine c_ret1 Tryd.results42  (v := v10) rfl ?_
    exact ⟨_, _, rfl, by simpa using ho12, hH14⟩
theorem cclone_c {E w : World} {R : List Hp} {v_l : Value} {l : List Cel} (hH : Has E w [R]) (h_l : Sl R 2 v_l l.length (l.flatMap ceC)) (hn : l.length ≤ 1000000) :
    Calls Tryd.prog 42 #[v_l] w fun e w' => ∃ v' hs', e = .returned v' ∧ Own 45 2 v' l.length (l.flatMap ceC) hs' ∧ Has E w' [hs', R] := by
  obtain ⟨p, cap, rfl⟩ := Sl.form h_l
  exact cclone_c_p hH h_l hn
set_option maxHeartbeats 4000000 in
theorem cdel_blk {E w : World} {R : List Hp} (g n cap i : Nat) (c : Array Value) (hH : Has E w [[Hp.one g (.cells c 45 (0, 0))], R]) (hi : i < n) (hnc : n ≤ cap) (hcap : cap ≤ 9223372036854775807) (hcs : c.size = cap * 2) (h1 : ∀ u ∈ c.toList.take (n * 2), u.oneCell' = true) :
    Calls Tryd.prog 43 #[(.slice (some ⟨g, 0, none⟩) n cap), (.int .i64 (i : Int)), (.int .i64 ((i : Int) + 1))] w fun e w' => ∃ v' hs', e = .returned v' ∧ Own 45 2 v' (n - 1) (c.toList.take (i * 2) ++ (c.toList.take (n * 2)).drop ((i + 1) * 2)) hs' ∧ Has E w' [hs', R] := by
  refine c_enter (args := [(.slice (some ⟨g, 0, none⟩) n cap), (.int .i64 (i : Int)), (.int .i64 ((i : Int) + 1))]) Tryd.func43 rfl Tryd.ntmps43 (by simp) ?_
  refine wp_seq_k fun K1 hK1 => ?_
  refine c_region ?_
  refine s_op (o_assign (v := (.slice none 0 0)) rfl ?_)
  refine s_nil ?_
  refine t_norm (hK1 _ _ ?_)
  refine wp_seq_k fun K2 hK2 => ?_
  refine c_region ?_
  refine s_op (o_move (v := (.slice (some ⟨g, 0, none⟩) n cap)) rfl ?_)
  refine s_op (o_move (v := (.int .i64 (i : Int))) rfl ?_)
  refine s_op (o_move (v := (.int .i64 ((i : Int) + 1))) rfl ?_)
  refine s_op (o_move (v := (.slice (some ⟨g, 0, none⟩) n cap)) rfl ?_)
  refine s_op (o_len Tryd.underlying22 rfl ?_)
  obtain ⟨o3, n4, c5, ho9, hn6, hc7, hq8⟩ := rsl_ex4 0 2 (i := (i : Int)) (j := (i : Int) + 1) (m := (n : Int)) (by omega) (by omega) (by omega)
  refine s_op (o_rsl2 (i := (i : Int)) (j := (i : Int) + 1) (m := (n : Int)) Tryd.underlying22 ti45 rfl (bounds_lhm (n := n) (cap := cap) (i := (i : Int)) (j := (i : Int) + 1) (m := (n : Int)) (by omega) (by omega) (by omega) (by omega)) (by omega) (by omega) (by omega) ho9 hn6 hc7 ?_)
  refine s_nil ?_
  refine t_norm (hK2 _ _ ?_)
  refine wp_seq_k fun K10 hK10 => ?_
  refine wp_seq_k fun K11 hK11 => ?_
  refine c_region ?_
  refine s_op (o_move (v := (.int .i64 (i : Int))) rfl ?_)
  refine s_op (o_move (v := (.int .i64 ((i : Int) + 1))) rfl ?_)
  refine s_op (o_eql (a := (i : Int)) (b := (i : Int) + 1) rfl rfl ?_)
  refine s_nil ?_
  refine t_norm (hK11 _ _ ?_)
  refine c_cond rfl (fun h12 => ?_) (fun h12 => ?_)
  · -- (i : Int) = (i : Int) + 1
    exfalso; omega
  · -- not: (i : Int) = (i : Int) + 1
    refine wp_skip ?_
    refine t_norm (hK10 _ _ ?_)
    refine wp_seq_k fun K13 hK13 => ?_
    refine c_region ?_
    refine s_op (o_move (v := (.slice (some ⟨g, 0, none⟩) n cap)) rfl ?_)
    refine s_op (o_len Tryd.underlying22 rfl ?_)
    refine s_op (o_assign (v := (.int .i64 (n : Int))) rfl ?_)
    refine s_nil ?_
    refine t_norm (hK13 _ _ ?_)
    refine wp_seq_k fun K14 hK14 => ?_
    refine Rest.region mixed (by kernel_rfl) ?_
    have hH15 : Has E { w with drawn := w.drawn + 1 } [[Hp.one g (.cells c 45 (0, 0))], R] := Has0.drew hH _
    refine Rest.phaseA (fun w_ => Has E w_ []) 0 6 6 rfl (by decide) (by kernel_rfl) ?_
    refine a_op 0 rfl (by kernel_rfl) (fun w_ h_ => o_move (v := (.slice (some ⟨g, 0, none⟩) n cap)) rfl ⟨rfl, rfl⟩) ?_
    refine a_op 1 rfl (by kernel_rfl) (fun w_ h_ => o_move (v := (.int .i64 (i : Int))) rfl ⟨rfl, rfl⟩) ?_
    obtain ⟨o16, n17, c18, ho22, hn19, hc20, hq21⟩ := rsl_ex4 0 2 (i := 0) (j := (i : Int)) (m := ((cap : Nat) : Int)) (by omega) (by omega) (by omega)
    refine a_op 2 rfl (by kernel_rfl) (fun w_ h_ => o_rsl2 (i := 0) (j := (i : Int)) (m := ((cap : Nat) : Int)) Tryd.underlying22 ti45 rfl (bounds_h (n := n) (cap := cap) (j := (i : Int)) (by omega) (by omega)) (by omega) (by omega) (by omega) ho22 hn19 hc20 ⟨rfl, rfl⟩) ?_
    refine a_op 3 rfl (by kernel_rfl) (fun w_ h_ => o_move (v := (.slice (some ⟨g, 0, none⟩) n cap)) rfl ⟨rfl, rfl⟩) ?_
    refine a_op 4 rfl (by kernel_rfl) (fun w_ h_ => o_move (v := (.int .i64 ((i : Int) + 1))) rfl ⟨rfl, rfl⟩) ?_
    obtain ⟨o23, n24, c25, ho29, hn26, hc27, hq28⟩ := rsl_ex4 0 2 (i := (i : Int) + 1) (j := ((n : Nat) : Int)) (m := ((cap : Nat) : Int)) (by omega) (by omega) (by omega)
    refine a_op 5 rfl (by kernel_rfl) (fun w_ h_ => o_rsl2 (i := (i : Int) + 1) (j := ((n : Nat) : Int)) (m := ((cap : Nat) : Int)) Tryd.underlying22 ti45 rfl (bounds_l (n := n) (cap := cap) (i := (i : Int) + 1) (by omega) (by omega)) (by omega) (by omega) (by omega) ho29 hn26 hc27 ⟨rfl, rfl⟩) ?_
    have hH30 : Has E { w with drawn := w.drawn + 1 } [] := hH15.first 0 rfl
    refine a_done (by kernel_rfl) hH30 ?_
    refine r_op 6 rfl (by kernel_rfl) (o_approom (ds := (c.toList.drop o23).take (n24 * 2)) Tryd.underlying22 ti45 rfl rfl (sl_raw (b := g) (o := o23) (sz := 2) (n := n24) (cap := c25) (c := c) (e := 45) (g := (0, 0)) (by omega) (by omega) (by omega)) hH15 sub_l (by omega) (by omega) (fun u hu => by exact h1 u (mem_part1 hu (by omega))) fun c31 w32 hz35 hc33 hH34 => ?_)
    refine r_op 7 rfl (by kernel_rfl) (o_assign (v := (.slice (some ⟨g, o16, none⟩) (n17 + n24) c18)) rfl ?_)
    refine Rest.done (by kernel_rfl) ?_
    refine t_norm (hK14 _ _ ?_)
    refine wp_seq_k fun K36 hK36 => ?_
    refine c_region ?_
    refine s_op (o_move (v := (.slice (some ⟨g, o16, none⟩) (n17 + n24) c18)) rfl ?_)
    refine s_op (o_move (v := (.slice (some ⟨g, o16, none⟩) (n17 + n24) c18)) rfl ?_)
    refine s_op (o_len Tryd.underlying22 rfl ?_)
    refine s_op (o_move (v := (.int .i64 (n : Int))) rfl ?_)
    obtain ⟨o37, n38, c39, ho43, hn40, hc41, hq42⟩ := rsl_ex4 o16 2 (i := ((n17 + n24) : Int)) (j := (n : Int)) (m := ((c18 : Nat) : Int)) (by omega) (by omega) (by omega)
    refine s_op (o_rsl2 (i := ((n17 + n24) : Int)) (j := (n : Int)) (m := ((c18 : Nat) : Int)) Tryd.underlying22 ti45 rfl (bounds_lh (n := (n17 + n24)) (cap := c18) (i := ((n17 + n24) : Int)) (j := (n : Int)) (by omega) (by omega) (by omega)) (by omega) (by omega) (by omega) ho43 hn40 hc41 ?_)
    refine s_eff (o_clear Tryd.underlying22 ti45 rfl rfl hH34 (by omega) (fun u hu => by (have h_ : u ∈ ([(S ([] : List UInt8)), (S ([] : List UInt8))] : List Value) := by simpa [Value.cells, S] using hu); simp only [List.mem_cons, List.not_mem_nil, or_false] at h_; rcases h_ with rfl | rfl <;> rfl) fun c44 w45 v46 hc47 hc48 hH49 => ?_)
    refine s_nil ?_
    refine t_norm (hK36 _ _ ?_)
    refine wp_seq_k fun K50 hK50 => ?_
    refine c_region ?_
    refine s_op (o_move (v := (.slice (some ⟨g, o16, none⟩) (n17 + n24) c18)) rfl ?_)
    refine s_op (o_assign (v := (.slice (some ⟨g, o16, none⟩) (n17 + n24) c18)) rfl ?_)
    refine s_nil ?_
    refine t_norm (hK50 _ _ ?_)
    refine wp_ret ?_
    refine c_ret1 Tryd.results43  (v := (.slice (some ⟨g, o16, none⟩) (n17 + n24) c18)) rfl ?_
    refine ⟨_, _, rfl, ⟨?_, .inr ⟨g, c18, c44, by rw [show (n17 + n24) = n - 1 from by omega, show (o16 : Nat) = 0 from by omega], rfl, by omega, by simp only [maxLen]; omega, by have h_ := hc47; simp only [Array.length_toList] at h_; omega, ?_⟩⟩, hH49⟩
    · simp only [List.length_append, List.length_drop, List.length_take, Array.length_toList]; omega
    · exact del_lawS hc33 hc48 (by omega) (by omega) (by omega) (by omega) hi (by simp only [Array.length_toList]; omega)
theorem cdel_own {E w : World} {R hs : List Hp} {v : Value} {l : List Cel} (i : Nat) (hi : i < l.length) (hH : Has E w [hs, R]) (ho : Own 45 2 v l.length (l.flatMap ceC) hs) (hl : l.length ≤ 1000000) :
    Calls Tryd.prog 43 #[v, (.int .i64 (i : Int)), (.int .i64 ((i : Int) + 1))] w fun e w' => ∃ v' hs', e = .returned v' ∧ Own 45 2 v' (l.take i ++ l.drop (i + 1)).length ((l.take i ++ l.drop (i + 1)).flatMap ceC) hs' ∧ Has E w' [hs', R] := by
  obtain ⟨e1, ⟨rfl, h0, rfl⟩ | ⟨b, cap, cur, rfl, rfl, hnc, hcm, hsz, ht⟩⟩ := ho
  · omega
  · have hcm' : cap ≤ 9223372036854775807 := by simpa [maxLen] using hcm
    refine (cdel_blk b l.length cap i cur hH hi hnc hcm' hsz (by rw [ht]; exact one_ceC l)).mono ?_
    rintro e w' ⟨v', hs', rfl, hO, hX⟩
    refine ⟨v', hs', rfl, ?_, hX⟩
    rw [del_listF ceC_len hi ht] at hO
    have e4 : (l.take i ++ l.drop (i + 1)).length = l.length - 1 := by simp only [List.length_append, List.length_take, List.length_drop]; omega
    rw [e4]; exact hO
end Go.Q
namespace Go.Q
open Go.Proofs
set_option linter.unusedVariables false
set_option maxRecDepth 100000
attribute [local irreducible] wpList OK Code.wp
set_option maxHeartbeats 4000000 in
theorem cins_grow {E w : World} {R : List Hp} (g bu n cap i : Nat) (c cu : Array Value) (hH : Has E w [[Hp.one g (.cells c 45 (0, 0))], [Hp.one bu (.cells cu 45 (0, 0))], R]) (hi : i < n) (hnc : n ≤ cap) (hroom : cap < n + 1) (hcap : cap ≤ 9223372036854775807) (hcs : c.size = cap * 2) (hcu : cu.size = 2) (hbig : (n + 1) * 32 ≤ 140737488355328) (h1 : ∀ u ∈ c.toList.take (n * 2), u.oneCell' = true) (h2 : ∀ u ∈ cu.toList, u.oneCell' = true) :
    Calls Tryd.prog 44 #[(.slice (some ⟨g, 0, none⟩) n cap), (.int .i64 (i : Int)), (.slice (some ⟨bu, 0, none⟩) 1 1)] w fun e w' => ∃ v' hs', e = .returned v' ∧ Own 45 2 v' (n + 1) (c.toList.take (i * 2) ++ cu.toList ++ (c.toList.take (n * 2)).drop (i * 2)) hs' ∧ Has E w' [hs', R] := by
  refine c_enter (args := [(.slice (some ⟨g, 0, none⟩) n cap), (.int .i64 (i : Int)), (.slice (some ⟨bu, 0, none⟩) 1 1)]) Tryd.func44 rfl Tryd.ntmps44 (by simp) ?_
  refine wp_seq_k fun K1 hK1 => ?_
  refine c_region ?_
  refine s_op (o_assign (v := (.slice none 0 0)) rfl ?_)
  refine s_nil ?_
  refine t_norm (hK1 _ _ ?_)
  refine wp_seq_k fun K2 hK2 => ?_
  refine c_region ?_
  refine s_op (o_move (v := (.slice (some ⟨g, 0, none⟩) n cap)) rfl ?_)
  refine s_op (o_move (v := (.int .i64 (i : Int))) rfl ?_)
  obtain ⟨o3, n4, c5, ho9, hn6, hc7⟩ := rsl_ex3 0 2 (i := (i : Int)) (j := ((n : Nat) : Int)) (m := ((cap : Nat) : Int)) (by omega) (by omega) (by omega)
  refine s_op (o_rsl2 (i := (i : Int)) (j := ((n : Nat) : Int)) (m := ((cap : Nat) : Int)) Tryd.underlying22 ti45 rfl (bounds_l (n := n) (cap := cap) (i := (i : Int)) (by omega) (by omega)) (by omega) (by omega) (by omega) (off3 ho9 (by omega)) hn6 hc7 ?_)
  refine s_nil ?_
  refine t_norm (hK2 _ _ ?_)
  refine wp_seq_k fun K10 hK10 => ?_
  refine c_region ?_
  refine s_op (o_move (v := (.slice (some ⟨bu, 0, none⟩) 1 1)) rfl ?_)
  refine s_op (o_len Tryd.underlying22 rfl ?_)
  refine s_op (o_assign (v := (.int .i64 (1 : Int))) rfl ?_)
  refine s_nil ?_
  refine t_norm (hK10 _ _ ?_)
  refine wp_seq_k fun K11 hK11 => ?_
  refine wp_seq_k fun K12 hK12 => ?_
  refine c_region ?_
  refine s_op (o_move (v := (.int .i64 (1 : Int))) rfl ?_)
  refine s_op (o_eql (a := (1 : Int)) (b := 0) rfl rfl ?_)
  refine s_nil ?_
  refine t_norm (hK12 _ _ ?_)
  refine c_cond rfl (fun h13 => ?_) (fun h13 => ?_)
  · -- (1 : Int) = 0
    exfalso; omega
  · -- not: (1 : Int) = 0
    refine wp_skip ?_
    refine t_norm (hK11 _ _ ?_)
    refine wp_seq_k fun K14 hK14 => ?_
    refine c_region ?_
    refine s_op (o_move (v := (.slice (some ⟨g, 0, none⟩) n cap)) rfl ?_)
    refine s_op (o_len Tryd.underlying22 rfl ?_)
    refine s_op (o_assign (v := (.int .i64 (n : Int))) rfl ?_)
    refine s_nil ?_
    refine t_norm (hK14 _ _ ?_)
    refine wp_seq_k fun K15 hK15 => ?_
    refine wp_seq_k fun K16 hK16 => ?_
    refine c_region ?_
    refine s_op (o_move (v := (.int .i64 (i : Int))) rfl ?_)
    refine s_op (o_move (v := (.int .i64 (n : Int))) rfl ?_)
    refine s_op (o_eql (a := (i : Int)) (b := (n : Int)) rfl rfl ?_)
    refine s_nil ?_
    refine t_norm (hK16 _ _ ?_)
    refine c_cond rfl (fun h17 => ?_) (fun h17 => ?_)
    · -- (i : Int) = (n : Int)
      exfalso; omega
    · -- not: (i : Int) = (n : Int)
      refine wp_skip ?_
      refine t_norm (hK15 _ _ ?_)
      refine wp_seq_k fun K18 hK18 => ?_
      refine wp_seq_k fun K19 hK19 => ?_
      refine c_region ?_
      refine s_op (o_move (v := (.int .i64 (n : Int))) rfl ?_)
      refine s_op (o_move (v := (.int .i64 (1 : Int))) rfl ?_)
      refine s_op (o_add (a := (n : Int)) (b := (1 : Int)) rfl rfl (w64 (by omega) (by omega)) ?_)
      refine s_op (o_move (v := (.slice (some ⟨g, 0, none⟩) n cap)) rfl ?_)
      refine s_op (o_cap Tryd.underlying22 rfl ?_)
      refine s_op (o_gtr (a := (n : Int) + (1 : Int)) (b := (cap : Int)) rfl rfl ?_)
      refine s_nil ?_
      refine t_norm (hK19 _ _ ?_)
      refine c_cond rfl (fun h20 => ?_) (fun h20 => ?_)
      · -- (cap : Int) < (n : Int) + (1 : Int)
        refine wp_seq_k fun K21 hK21 => ?_
        refine c_region ?_
        refine s_op (o_move (v := (.slice (some ⟨g, 0, none⟩) n cap)) rfl ?_)
        refine s_op (o_move (v := (.int .i64 (i : Int))) rfl ?_)
        obtain ⟨o22, n23, c24, ho28, hn25, hc26⟩ := rsl_ex3 0 2 (i := 0) (j := (i : Int)) (m := ((cap : Nat) : Int)) (by omega) (by omega) (by omega)
        refine s_op (o_rsl2 (i := 0) (j := (i : Int)) (m := ((cap : Nat) : Int)) Tryd.underlying22 ti45 rfl (bounds_h (n := n) (cap := cap) (j := (i : Int)) (by omega) (by omega)) (by omega) (by omega) (by omega) (off3 ho28 (by omega)) hn25 hc26 ?_)
        refine s_op (o_move (v := (.int .i64 (n : Int))) rfl ?_)
        refine s_op (o_move (v := (.int .i64 (1 : Int))) rfl ?_)
        refine s_op (o_add (a := (n : Int)) (b := (1 : Int)) rfl rfl (w64 (by omega) (by omega)) ?_)
        refine s_op (o_move (v := (.int .i64 (i : Int))) rfl ?_)
        refine s_op (o_sub (a := (n : Int) + (1 : Int)) (b := (i : Int)) rfl rfl (w64 (by omega) (by omega)) ?_)
        refine s_op (o_appmake (m := (((n : Int) + (1 : Int)) - (i : Int)).toNat) (cs := (c.toList.drop o22).take (n23 * 2)) Tryd.underlying22 Tryd.underlying3 ti45 rfl (by decide) rfl (sl_raw (b := g) (o := o22) (sz := 2) (n := n23) (cap := c24) (c := c) (e := 45) (g := (0, 0)) (by omega) (by omega) (by omega)) rfl (by omega) hH (seg_sub 0 rfl) (by omega) (by omega) (by omega) fun b38 c39 p40 w41 hs43 hr44 hm45 ht46 hH42 => ?_)
        refine s_op (o_assign (v := (.slice (some ⟨b38, 0, none⟩) (n23 + (((n : Int) + (1 : Int)) - (i : Int)).toNat) p40)) rfl ?_)
        refine s_nil ?_
        refine t_norm (hK21 _ _ ?_)
        refine wp_seq_k fun K47 hK47 => ?_
        refine c_region ?_
        refine s_op (o_move (v := (.slice (some ⟨b38, 0, none⟩) (n23 + (((n : Int) + (1 : Int)) - (i : Int)).toNat) p40)) rfl ?_)
        refine s_op (o_move (v := (.int .i64 (i : Int))) rfl ?_)
        obtain ⟨o48, n49, c50, ho54, hn51, hc52⟩ := rsl_ex3 0 2 (i := (i : Int)) (j := (((n23 + (((n : Int) + (1 : Int)) - (i : Int)).toNat) : Nat) : Int)) (m := ((p40 : Nat) : Int)) (by omega) (by omega) (by omega)
        refine s_op (o_rsl2 (i := (i : Int)) (j := (((n23 + (((n : Int) + (1 : Int)) - (i : Int)).toNat) : Nat) : Int)) (m := ((p40 : Nat) : Int)) Tryd.underlying22 ti45 rfl (bounds_l (n := (n23 + (((n : Int) + (1 : Int)) - (i : Int)).toNat)) (cap := p40) (i := (i : Int)) (by omega) (by omega)) (by omega) (by omega) (by omega) (off3 ho54 (by omega)) hn51 hc52 ?_)
        refine s_op (o_move (v := (.slice (some ⟨bu, 0, none⟩) 1 1)) rfl ?_)
        refine s_op (o_copy (ds := (cu.toList.drop 0).take (1 * 2)) Tryd.underlying22 ti45 rfl rfl (sl_raw (b := bu) (o := 0) (sz := 2) (n := 1) (cap := 1) (c := cu) (e := 45) (g := (0, 0)) (by omega) (by omega) (by omega)) hH42 (seg_sub 2 rfl) (by omega) (fun u hu => by exact h2 u (List.mem_of_mem_drop (List.mem_of_mem_take (List.mem_of_mem_take hu)))) fun c55 w56 hz59 hc57 hH58 => ?_)
        refine s_nil ?_
        refine t_norm (hK47 _ _ ?_)
        refine wp_seq_k fun K60 hK60 => ?_
        refine Rest.region mixed (by kernel_rfl) ?_
        have hH61 : Has E { w56 with drawn := w56.drawn + 1 } [[Hp.one b38 (.cells c55 45 (0, 0))], [Hp.one g (.cells c 45 (0, 0))], [Hp.one bu (.cells cu 45 (0, 0))], R] := Has0.drew hH58 _
        refine Rest.phaseA (fun w_ => Has E w_ []) 0 8 8 rfl (by decide) (by kernel_rfl) ?_
        refine a_op 0 rfl (by kernel_rfl) (fun w_ h_ => o_move (v := (.slice (some ⟨b38, 0, none⟩) (n23 + (((n : Int) + (1 : Int)) - (i : Int)).toNat) p40)) rfl ⟨rfl, rfl⟩) ?_
        refine a_op 1 rfl (by kernel_rfl) (fun w_ h_ => o_move (v := (.int .i64 (i : Int))) rfl ⟨rfl, rfl⟩) ?_
        refine a_op 2 rfl (by kernel_rfl) (fun w_ h_ => o_move (v := (.int .i64 (1 : Int))) rfl ⟨rfl, rfl⟩) ?_
        refine a_op 3 rfl (by kernel_rfl) (fun w_ h_ => o_add (a := (i : Int)) (b := (1 : Int)) rfl rfl (w64 (by omega) (by omega)) ⟨rfl, rfl⟩) ?_
        obtain ⟨o62, n63, c64, ho68, hn65, hc66⟩ := rsl_ex3 0 2 (i := (i : Int) + (1 : Int)) (j := (((n23 + (((n : Int) + (1 : Int)) - (i : Int)).toNat) : Nat) : Int)) (m := ((p40 : Nat) : Int)) (by omega) (by omega) (by omega)
        refine a_op 4 rfl (by kernel_rfl) (fun w_ h_ => o_rsl2 (i := (i : Int) + (1 : Int)) (j := (((n23 + (((n : Int) + (1 : Int)) - (i : Int)).toNat) : Nat) : Int)) (m := ((p40 : Nat) : Int)) Tryd.underlying22 ti45 rfl (bounds_l (n := (n23 + (((n : Int) + (1 : Int)) - (i : Int)).toNat)) (cap := p40) (i := (i : Int) + (1 : Int)) (by omega) (by omega)) (by omega) (by omega) (by omega) (off3 ho68 (by omega)) hn65 hc66 ⟨rfl, rfl⟩) ?_
        refine a_op 5 rfl (by kernel_rfl) (fun w_ h_ => o_move (v := (.slice (some ⟨g, 0, none⟩) n cap)) rfl ⟨rfl, rfl⟩) ?_
        refine a_op 6 rfl (by kernel_rfl) (fun w_ h_ => o_move (v := (.int .i64 (i : Int))) rfl ⟨rfl, rfl⟩) ?_
        obtain ⟨o69, n70, c71, ho75, hn72, hc73⟩ := rsl_ex3 0 2 (i := (i : Int)) (j := ((n : Nat) : Int)) (m := ((cap : Nat) : Int)) (by omega) (by omega) (by omega)
        refine a_op 7 rfl (by kernel_rfl) (fun w_ h_ => o_rsl2 (i := (i : Int)) (j := ((n : Nat) : Int)) (m := ((cap : Nat) : Int)) Tryd.underlying22 ti45 rfl (bounds_l (n := n) (cap := cap) (i := (i : Int)) (by omega) (by omega)) (by omega) (by omega) (by omega) (off3 ho75 (by omega)) hn72 hc73 ⟨rfl, rfl⟩) ?_
        have hH76 : Has E { w56 with drawn := w56.drawn + 1 } [] := hH61.first 0 rfl
        refine a_done (by kernel_rfl) hH76 ?_
        refine r_op 8 rfl (by kernel_rfl) (o_copy (ds := (c.toList.drop o69).take (n70 * 2)) Tryd.underlying22 ti45 rfl rfl (sl_raw (b := g) (o := o69) (sz := 2) (n := n70) (cap := c71) (c := c) (e := 45) (g := (0, 0)) (by omega) (by omega) (by omega)) hH61 (seg_sub 1 rfl) (by omega) (fun u hu => by exact h1 u (mem_part hu (by omega))) fun c77 w78 hz81 hc79 hH80 => ?_)
        refine Rest.done (by kernel_rfl) ?_
        refine t_norm (hK60 _ _ ?_)
        refine wp_seq_k fun K82 hK82 => ?_
        refine c_region ?_
        refine s_op (o_move (v := (.slice (some ⟨b38, 0, none⟩) (n23 + (((n : Int) + (1 : Int)) - (i : Int)).toNat) p40)) rfl ?_)
        refine s_op (o_assign (v := (.slice (some ⟨b38, 0, none⟩) (n23 + (((n : Int) + (1 : Int)) - (i : Int)).toNat) p40)) rfl ?_)
        refine s_nil ?_
        refine t_norm (hK82 _ _ ?_)
        refine wp_ret ?_
        refine t_ret (c_ret1 Tryd.results44  (v := (.slice (some ⟨b38, 0, none⟩) (n23 + (((n : Int) + (1 : Int)) - (i : Int)).toNat) p40)) rfl ?_)
        have hH83 : Has E w78 [[Hp.one b38 (.cells c77 45 (0, 0))], R] := ((hH80.front 3 rfl).front 1 rfl).first 2 rfl
        rw [if_pos (by omega)] at hc57
        rw [if_pos (by omega)] at hc79
        refine ⟨_, _, rfl, ⟨?_, .inr ⟨b38, p40, c77, by rw [show (n23 + (((n : Int) + (1 : Int)) - (i : Int)).toNat) = n + 1 from by omega, show (0 : Nat) = 0 from by omega], rfl, by omega, by simp only [maxLen]; omega, by omega, ?_⟩⟩, hH83⟩
        · rw [show (n + 1) * 2 = n * 2 + 2 from by omega]; exact ins_len (by simp only [Array.length_toList]; omega) (by omega) (by simp only [Array.length_toList]; omega)
        · rw [show (n + 1) * 2 = n * 2 + 2 from by omega]; exact insA ht46 hc57 hc79 (by omega) (by omega) (by omega) (by omega) (by omega) (by omega) (by omega) (by omega) (by omega) (by omega) (by omega) (by simp only [Array.length_toList]; omega) (by omega) (by simp only [Array.length_toList]; omega) (by simp only [Array.length_toList]; omega)
      · -- not: (cap : Int) < (n : Int) + (1 : Int)
        exfalso; omega
set_option maxHeartbeats 4000000 in
theorem cins_room {E w : World} {R : List Hp} (g bu n cap i : Nat) (c cu : Array Value) (hH : Has E w [[Hp.one g (.cells c 45 (0, 0))], [Hp.one bu (.cells cu 45 (0, 0))], R]) (hi : i < n) (hnc : n ≤ cap) (hroom : n + 1 ≤ cap) (hcap : cap ≤ 9223372036854775807) (hcs : c.size = cap * 2) (hcu : cu.size = 2) (hbig : (n + 1) * 32 ≤ 140737488355328) (h1 : ∀ u ∈ c.toList.take (n * 2), u.oneCell' = true) (h2 : ∀ u ∈ cu.toList, u.oneCell' = true) :
    Calls Tryd.prog 44 #[(.slice (some ⟨g, 0, none⟩) n cap), (.int .i64 (i : Int)), (.slice (some ⟨bu, 0, none⟩) 1 1)] w fun e w' => ∃ v' hs', e = .returned v' ∧ Own 45 2 v' (n + 1) (c.toList.take (i * 2) ++ cu.toList ++ (c.toList.take (n * 2)).drop (i * 2)) hs' ∧ Has E w' [hs', R] := by
  refine c_enter (args := [(.slice (some ⟨g, 0, none⟩) n cap), (.int .i64 (i : Int)), (.slice (some ⟨bu, 0, none⟩) 1 1)]) Tryd.func44 rfl Tryd.ntmps44 (by simp) ?_
  refine wp_seq_k fun K1 hK1 => ?_
  refine c_region ?_
  refine s_op (o_assign (v := (.slice none 0 0)) rfl ?_)
  refine s_nil ?_
  refine t_norm (hK1 _ _ ?_)
  refine wp_seq_k fun K2 hK2 => ?_
  refine c_region ?_
  refine s_op (o_move (v := (.slice (some ⟨g, 0, none⟩) n cap)) rfl ?_)
  refine s_op (o_move (v := (.int .i64 (i : Int))) rfl ?_)
  obtain ⟨o3, n4, c5, ho9, hn6, hc7⟩ := rsl_ex3 0 2 (i := (i : Int)) (j := ((n : Nat) : Int)) (m := ((cap : Nat) : Int)) (by omega) (by omega) (by omega)
  refine s_op (o_rsl2 (i := (i : Int)) (j := ((n : Nat) : Int)) (m := ((cap : Nat) : Int)) Tryd.underlying22 ti45 rfl (bounds_l (n := n) (cap := cap) (i := (i : Int)) (by omega) (by omega)) (by omega) (by omega) (by omega) (off3 ho9 (by omega)) hn6 hc7 ?_)
  refine s_nil ?_
  refine t_norm (hK2 _ _ ?_)
  refine wp_seq_k fun K10 hK10 => ?_
  refine c_region ?_
  refine s_op (o_move (v := (.slice (some ⟨bu, 0, none⟩) 1 1)) rfl ?_)
  refine s_op (o_len Tryd.underlying22 rfl ?_)
  refine s_op (o_assign (v := (.int .i64 (1 : Int))) rfl ?_)
  refine s_nil ?_
  refine t_norm (hK10 _ _ ?_)
  refine wp_seq_k fun K11 hK11 => ?_
  refine wp_seq_k fun K12 hK12 => ?_
  refine c_region ?_
  refine s_op (o_move (v := (.int .i64 (1 : Int))) rfl ?_)
  refine s_op (o_eql (a := (1 : Int)) (b := 0) rfl rfl ?_)
  refine s_nil ?_
  refine t_norm (hK12 _ _ ?_)
  refine c_cond rfl (fun h13 => ?_) (fun h13 => ?_)
  · -- (1 : Int) = 0
    exfalso; omega
  · -- not: (1 : Int) = 0
    refine wp_skip ?_
    refine t_norm (hK11 _ _ ?_)
    refine wp_seq_k fun K14 hK14 => ?_
    refine c_region ?_
    refine s_op (o_move (v := (.slice (some ⟨g, 0, none⟩) n cap)) rfl ?_)
    refine s_op (o_len Tryd.underlying22 rfl ?_)
    refine s_op (o_assign (v := (.int .i64 (n : Int))) rfl ?_)
    refine s_nil ?_
    refine t_norm (hK14 _ _ ?_)
    refine wp_seq_k fun K15 hK15 => ?_
    refine wp_seq_k fun K16 hK16 => ?_
    refine c_region ?_
    refine s_op (o_move (v := (.int .i64 (i : Int))) rfl ?_)
    refine s_op (o_move (v := (.int .i64 (n : Int))) rfl ?_)
    refine s_op (o_eql (a := (i : Int)) (b := (n : Int)) rfl rfl ?_)
    refine s_nil ?_
    refine t_norm (hK16 _ _ ?_)
    refine c_cond rfl (fun h17 => ?_) (fun h17 => ?_)
    · -- (i : Int) = (n : Int)
      exfalso; omega
    · -- not: (i : Int) = (n : Int)
      refine wp_skip ?_
      refine t_norm (hK15 _ _ ?_)
      refine wp_seq_k fun K18 hK18 => ?_
      refine wp_seq_k fun K19 hK19 => ?_
      refine c_region ?_
      refine s_op (o_move (v := (.int .i64 (n : Int))) rfl ?_)
      refine s_op (o_move (v := (.int .i64 (1 : Int))) rfl ?_)
      refine s_op (o_add (a := (n : Int)) (b := (1 : Int)) rfl rfl (w64 (by omega) (by omega)) ?_)
      refine s_op (o_move (v := (.slice (some ⟨g, 0, none⟩) n cap)) rfl ?_)
      refine s_op (o_cap Tryd.underlying22 rfl ?_)
      refine s_op (o_gtr (a := (n : Int) + (1 : Int)) (b := (cap : Int)) rfl rfl ?_)
      refine s_nil ?_
      refine t_norm (hK19 _ _ ?_)
      refine c_cond rfl (fun h20 => ?_) (fun h20 => ?_)
      · -- (cap : Int) < (n : Int) + (1 : Int)
        exfalso; omega
      · -- not: (cap : Int) < (n : Int) + (1 : Int)
        refine wp_skip ?_
        refine t_norm (hK18 _ _ ?_)
        refine wp_seq_k fun K21 hK21 => ?_
        refine c_region ?_
        refine s_op (o_move (v := (.slice (some ⟨g, 0, none⟩) n cap)) rfl ?_)
        refine s_op (o_move (v := (.int .i64 (n : Int))) rfl ?_)
        refine s_op (o_move (v := (.int .i64 (1 : Int))) rfl ?_)
        refine s_op (o_add (a := (n : Int)) (b := (1 : Int)) rfl rfl (w64 (by omega) (by omega)) ?_)
        obtain ⟨o22, n23, c24, ho28, hn25, hc26⟩ := rsl_ex3 0 2 (i := 0) (j := (n : Int) + (1 : Int)) (m := ((cap : Nat) : Int)) (by omega) (by omega) (by omega)
        refine s_op (o_rsl2 (i := 0) (j := (n : Int) + (1 : Int)) (m := ((cap : Nat) : Int)) Tryd.underlying22 ti45 rfl (bounds_h (n := n) (cap := cap) (j := (n : Int) + (1 : Int)) (by omega) (by omega)) (by omega) (by omega) (by omega) (off3 ho28 (by omega)) hn25 hc26 ?_)
        refine s_op (o_assign (v := (.slice (some ⟨g, o22, none⟩) n23 c24)) rfl ?_)
        refine s_nil ?_
        refine t_norm (hK21 _ _ ?_)
        refine wp_seq_k fun K29 hK29 => ?_
        refine wp_seq_k fun K30 hK30 => ?_
        refine c_region ?_
        refine s_op (o_move (v := (.slice (some ⟨bu, 0, none⟩) 1 1)) rfl ?_)
        refine s_op (o_move (v := (.slice (some ⟨g, o22, none⟩) n23 c24)) rfl ?_)
        refine s_op (o_move (v := (.int .i64 (i : Int))) rfl ?_)
        refine s_op (o_move (v := (.int .i64 (1 : Int))) rfl ?_)
        refine s_op (o_add (a := (i : Int)) (b := (1 : Int)) rfl rfl (w64 (by omega) (by omega)) ?_)
        obtain ⟨o31, n32, c33, ho37, hn34, hc35⟩ := rsl_ex3 o22 2 (i := (i : Int) + (1 : Int)) (j := ((n23 : Nat) : Int)) (m := ((c24 : Nat) : Int)) (by omega) (by omega) (by omega)
        refine s_op (o_rsl2 (i := (i : Int) + (1 : Int)) (j := ((n23 : Nat) : Int)) (m := ((c24 : Nat) : Int)) Tryd.underlying22 ti45 rfl (bounds_l (n := n23) (cap := c24) (i := (i : Int) + (1 : Int)) (by omega) (by omega)) (by omega) (by omega) (by omega) (off3 ho37 (by omega)) hn34 hc35 ?_)
        refine s_op (o_overlaps (tR := 4) Tryd.func82 (by kernel_rfl) (by kernel_rfl) (by kernel_rfl) (by kernel_rfl) Tryd.underlying22 ti45 rfl rfl (hH.front 1 rfl) (by omega) rfl ?_)
        refine s_op (o_not rfl ?_)
        refine s_nil ?_
        refine t_norm (hK30 _ _ ?_)
        refine c_true rfl rfl ?_
        refine wp_seq_k fun K38 hK38 => ?_
        refine Rest.region mixed (by kernel_rfl) ?_
        have hH39 : Has E { w with drawn := w.drawn + 1 } [[Hp.one g (.cells c 45 (0, 0))], [Hp.one bu (.cells cu 45 (0, 0))], R] := Has0.drew hH _
        refine Rest.phaseA (fun w_ => Has E w_ []) 0 8 8 rfl (by decide) (by kernel_rfl) ?_
        refine a_op 0 rfl (by kernel_rfl) (fun w_ h_ => o_move (v := (.slice (some ⟨g, o22, none⟩) n23 c24)) rfl ⟨rfl, rfl⟩) ?_
        refine a_op 1 rfl (by kernel_rfl) (fun w_ h_ => o_move (v := (.int .i64 (i : Int))) rfl ⟨rfl, rfl⟩) ?_
        refine a_op 2 rfl (by kernel_rfl) (fun w_ h_ => o_move (v := (.int .i64 (1 : Int))) rfl ⟨rfl, rfl⟩) ?_
        refine a_op 3 rfl (by kernel_rfl) (fun w_ h_ => o_add (a := (i : Int)) (b := (1 : Int)) rfl rfl (w64 (by omega) (by omega)) ⟨rfl, rfl⟩) ?_
        obtain ⟨o40, n41, c42, ho46, hn43, hc44⟩ := rsl_ex3 o22 2 (i := (i : Int) + (1 : Int)) (j := ((n23 : Nat) : Int)) (m := ((c24 : Nat) : Int)) (by omega) (by omega) (by omega)
        refine a_op 4 rfl (by kernel_rfl) (fun w_ h_ => o_rsl2 (i := (i : Int) + (1 : Int)) (j := ((n23 : Nat) : Int)) (m := ((c24 : Nat) : Int)) Tryd.underlying22 ti45 rfl (bounds_l (n := n23) (cap := c24) (i := (i : Int) + (1 : Int)) (by omega) (by omega)) (by omega) (by omega) (by omega) (off3 ho46 (by omega)) hn43 hc44 ⟨rfl, rfl⟩) ?_
        refine a_op 5 rfl (by kernel_rfl) (fun w_ h_ => o_move (v := (.slice (some ⟨g, o22, none⟩) n23 c24)) rfl ⟨rfl, rfl⟩) ?_
        refine a_op 6 rfl (by kernel_rfl) (fun w_ h_ => o_move (v := (.int .i64 (i : Int))) rfl ⟨rfl, rfl⟩) ?_
        obtain ⟨o47, n48, c49, ho53, hn50, hc51⟩ := rsl_ex3 o22 2 (i := (i : Int)) (j := ((n23 : Nat) : Int)) (m := ((c24 : Nat) : Int)) (by omega) (by omega) (by omega)
        refine a_op 7 rfl (by kernel_rfl) (fun w_ h_ => o_rsl2 (i := (i : Int)) (j := ((n23 : Nat) : Int)) (m := ((c24 : Nat) : Int)) Tryd.underlying22 ti45 rfl (bounds_l (n := n23) (cap := c24) (i := (i : Int)) (by omega) (by omega)) (by omega) (by omega) (by omega) (off3 ho53 (by omega)) hn50 hc51 ⟨rfl, rfl⟩) ?_
        have hH54 : Has E { w with drawn := w.drawn + 1 } [] := hH39.first 0 rfl
        refine a_done (by kernel_rfl) hH54 ?_
        refine r_op 8 rfl (by kernel_rfl) (o_copy (ds := (c.toList.drop o47).take (n48 * 2)) Tryd.underlying22 ti45 rfl rfl (sl_raw (b := g) (o := o47) (sz := 2) (n := n48) (cap := c49) (c := c) (e := 45) (g := (0, 0)) (by omega) (by omega) (by omega)) hH39 sub_l (by omega) (fun u hu => by exact h1 u (mem_part hu (by omega))) fun c55 w56 hz59 hc57 hH58 => ?_)
        refine Rest.done (by kernel_rfl) ?_
        refine t_norm (hK38 _ _ ?_)
        refine wp_seq_k fun K60 hK60 => ?_
        refine c_region ?_
        refine s_op (o_move (v := (.slice (some ⟨g, o22, none⟩) n23 c24)) rfl ?_)
        refine s_op (o_move (v := (.int .i64 (i : Int))) rfl ?_)
        obtain ⟨o61, n62, c63, ho67, hn64, hc65⟩ := rsl_ex3 o22 2 (i := (i : Int)) (j := ((n23 : Nat) : Int)) (m := ((c24 : Nat) : Int)) (by omega) (by omega) (by omega)
        refine s_op (o_rsl2 (i := (i : Int)) (j := ((n23 : Nat) : Int)) (m := ((c24 : Nat) : Int)) Tryd.underlying22 ti45 rfl (bounds_l (n := n23) (cap := c24) (i := (i : Int)) (by omega) (by omega)) (by omega) (by omega) (by omega) (off3 ho67 (by omega)) hn64 hc65 ?_)
        refine s_op (o_move (v := (.slice (some ⟨bu, 0, none⟩) 1 1)) rfl ?_)
        refine s_op (o_copy (ds := (cu.toList.drop 0).take (1 * 2)) Tryd.underlying22 ti45 rfl rfl (sl_raw (b := bu) (o := 0) (sz := 2) (n := 1) (cap := 1) (c := cu) (e := 45) (g := (0, 0)) (by omega) (by omega) (by omega)) hH58 (seg_sub 1 rfl) (by omega) (fun u hu => by exact h2 u (List.mem_of_mem_drop (List.mem_of_mem_take (List.mem_of_mem_take hu)))) fun c68 w69 hz72 hc70 hH71 => ?_)
        refine s_nil ?_
        refine t_norm (hK60 _ _ ?_)
        refine wp_seq_k fun K73 hK73 => ?_
        refine c_region ?_
        refine s_op (o_move (v := (.slice (some ⟨g, o22, none⟩) n23 c24)) rfl ?_)
        refine s_op (o_assign (v := (.slice (some ⟨g, o22, none⟩) n23 c24)) rfl ?_)
        refine s_nil ?_
        refine t_norm (hK73 _ _ ?_)
        refine wp_ret ?_
        refine t_ret (c_ret1 Tryd.results44  (v := (.slice (some ⟨g, o22, none⟩) n23 c24)) rfl ?_)
        have hH74 : Has E w69 [[Hp.one g (.cells c68 45 (0, 0))], R] := ((hH71.front 2 rfl).front 1 rfl).first 2 rfl
        rw [if_pos (by omega)] at hc57
        rw [if_pos (by omega)] at hc70
        refine ⟨_, _, rfl, ⟨?_, .inr ⟨g, c24, c68, by rw [show n23 = n + 1 from by omega, show (o22 : Nat) = 0 from by omega], rfl, by omega, by simp only [maxLen]; omega, by omega, ?_⟩⟩, hH74⟩
        · rw [show (n + 1) * 2 = n * 2 + 2 from by omega]; exact ins_len (by simp only [Array.length_toList]; omega) (by omega) (by simp only [Array.length_toList]; omega)
        · rw [show (n + 1) * 2 = n * 2 + 2 from by omega]; exact insB hc57 hc70 (by omega) (by omega) (by omega) (by omega) (by omega) (by omega) (by omega) (by omega) (by omega) (by simp only [Array.length_toList]; omega) (by omega) (by simp only [Array.length_toList]; omega)
set_option maxHeartbeats 4000000 in
theorem cins_end {E w : World} {R hs : List Hp} {v : Value} {l : List Cel} {x : Cel} {bu : Nat} (hH : Has E w [hs, [Hp.one bu (.cells #[(S x.1), (S x.2)] 45 (0, 0))], R]) (ho : Own 45 2 v l.length (l.flatMap ceC) hs) (hl : l.length ≤ 1000000) :
    Calls Tryd.prog 44 #[v, (.int .i64 (l.length : Int)), (.slice (some ⟨bu, 0, none⟩) 1 1)] w fun e w' => ∃ v' hs', e = .returned v' ∧ Own 45 2 v' (l ++ [x]).length ((l ++ [x]).flatMap ceC) hs' ∧ Has E w' [hs', R] := by
  have hu : Sl [Hp.one bu (.cells #[(S x.1), (S x.2)] 45 (0, 0))] 2 (.slice (some ⟨bu, 0, none⟩) 1 1) ([x] : List Cel).length ([x].flatMap ceC) := (sl_litF (f := ceC) (l := [x]) ceC_len rfl rfl (by decide))
  refine c_enter (args := [v, (.int .i64 (l.length : Int)), (.slice (some ⟨bu, 0, none⟩) 1 1)]) Tryd.func44 rfl Tryd.ntmps44 (by simp) ?_
  refine wp_seq_k fun K1 hK1 => ?_
  refine c_region ?_
  refine s_op (o_assign (v := (.slice none 0 0)) rfl ?_)
  refine s_nil ?_
  refine t_norm (hK1 _ _ ?_)
  refine wp_seq_k fun K2 hK2 => ?_
  refine c_region ?_
  refine s_op (o_move (v := v) rfl ?_)
  refine s_op (o_move (v := (.int .i64 (l.length : Int))) rfl ?_)
  refine s_op (o_sl_l Tryd.underlying22 ti45 rfl ho.sl rfl (by omega) (by omega) fun v3 hv4 => ?_)
  have hv5 := sl_dropF ceC_len hv4
  refine s_nil ?_
  refine t_norm (hK2 _ _ ?_)
  refine wp_seq_k fun K6 hK6 => ?_
  refine c_region ?_
  refine s_op (o_move (v := (.slice (some ⟨bu, 0, none⟩) 1 1)) rfl ?_)
  refine s_op (o_lenS Tryd.underlying22 rfl hu ?_)
  refine s_op (o_assign (v := (.int .i64 ((1 : Nat) : Int))) rfl ?_)
  refine s_nil ?_
  refine t_norm (hK6 _ _ ?_)
  refine wp_seq_k fun K7 hK7 => ?_
  refine wp_seq_k fun K8 hK8 => ?_
  refine c_region ?_
  refine s_op (o_move (v := (.int .i64 ((1 : Nat) : Int))) rfl ?_)
  refine s_op (o_eql (a := ((1 : Nat) : Int)) (b := 0) rfl rfl ?_)
  refine s_nil ?_
  refine t_norm (hK8 _ _ ?_)
  refine c_cond rfl (fun h9 => ?_) (fun h9 => ?_)
  · -- ((1 : Nat) : Int) = 0
    exfalso; omega
  · -- not: ((1 : Nat) : Int) = 0
    refine wp_skip ?_
    refine t_norm (hK7 _ _ ?_)
    refine wp_seq_k fun K10 hK10 => ?_
    refine c_region ?_
    refine s_op (o_move (v := v) rfl ?_)
    refine s_op (o_lenS Tryd.underlying22 rfl ho.sl ?_)
    refine s_op (o_assign (v := (.int .i64 ((l.length : Nat) : Int))) rfl ?_)
    refine s_nil ?_
    refine t_norm (hK10 _ _ ?_)
    refine wp_seq_k fun K11 hK11 => ?_
    refine wp_seq_k fun K12 hK12 => ?_
    refine c_region ?_
    refine s_op (o_move (v := (.int .i64 (l.length : Int))) rfl ?_)
    refine s_op (o_move (v := (.int .i64 ((l.length : Nat) : Int))) rfl ?_)
    refine s_op (o_eql (a := (l.length : Int)) (b := ((l.length : Nat) : Int)) rfl rfl ?_)
    refine s_nil ?_
    refine t_norm (hK12 _ _ ?_)
    refine c_cond rfl (fun h13 => ?_) (fun h13 => ?_)
    · -- (l.length : Int) = ((l.length : Nat) : Int)
      refine wp_seq_k fun K14 hK14 => ?_
      refine c_region ?_
      refine s_op (o_move (v := v) rfl ?_)
      refine s_op (o_move (v := (.slice (some ⟨bu, 0, none⟩) 1 1)) rfl ?_)
      refine s_op (o_append Tryd.underlying22 ti45 rfl (by decide) rfl ho rfl hu (hH.front 0 rfl) (seg_sub 0 rfl) (one_ceC _) (by simp; omega) (by simp; omega) fun v15 s16 w18 ho17 hH19 => ?_)
      have ho17 : Own 45 2 v15 (l ++ [x]).length ((l ++ [x]).flatMap ceC) s16 := ho17.appF
      refine s_op (o_assign (v := v15) rfl ?_)
      refine s_nil ?_
      refine t_norm (hK14 _ _ ?_)
      refine wp_ret ?_
      refine t_ret (c_ret1 Tryd.results44  (v := v15) rfl ?_)
      have hH20 : Has E w18 [s16, R] := ((hH19.front 2 rfl).front 1 rfl).first 2 rfl
      exact ⟨_, _, rfl, ho17, hH20⟩
    · -- not: (l.length : Int) = ((l.length : Nat) : Int)
      exact absurd rfl h13
theorem cins_own {E w : World} {R hs : List Hp} {v : Value} {l : List Cel} {x : Cel} {bu : Nat} (i : Nat) (hi : i ≤ l.length) (hH : Has E w [hs, [Hp.one bu (.cells #[(S x.1), (S x.2)] 45 (0, 0))], R]) (ho : Own 45 2 v l.length (l.flatMap ceC) hs) (hl : l.length ≤ 1000000) :
    Calls Tryd.prog 44 #[v, (.int .i64 (i : Int)), (.slice (some ⟨bu, 0, none⟩) 1 1)] w fun e w' => ∃ v' hs', e = .returned v' ∧ Own 45 2 v' (insAt l i x).length ((insAt l i x).flatMap ceC) hs' ∧ Has E w' [hs', R] := by
  unfold insAt
  rcases Nat.lt_or_ge i l.length with h | h
  · obtain ⟨e1, ⟨rfl, h0, rfl⟩ | ⟨b, cap, cur, rfl, rfl, hnc, hcm, hsz, ht⟩⟩ := ho
    · omega
    · have hcm' : cap ≤ 9223372036854775807 := by simpa [maxLen] using hcm
      have e2 : cur.toList.take (i * 2) = ((l.take i).flatMap ceC) := by
        rw [← flat_take ceC_len l i, ← ht, List.take_take, Nat.min_eq_left (by omega)]
      have e3 : (cur.toList.take (l.length * 2)).drop (i * 2) = ((l.drop i).flatMap ceC) := by rw [ht, flat_drop ceC_len l i]
      have h1 : ∀ u ∈ cur.toList.take (l.length * 2), u.oneCell' = true := by rw [ht]; exact (one_ceC l)
      have h2 : ∀ u ∈ (#[(S x.1), (S x.2)] : Array Value).toList, u.oneCell' = true := (fun u_ hu_ => (one_ceC [x]) u_ (by simpa [ceC, iV] using hu_))
      have key : ∀ (e : Ending) (w' : World), (∃ v' hs', e = .returned v' ∧ Own 45 2 v' (l.length + 1) (cur.toList.take (i * 2) ++ (#[(S x.1), (S x.2)] : Array Value).toList ++ (cur.toList.take (l.length * 2)).drop (i * 2)) hs' ∧ Has E w' [hs', R]) →
          ∃ v' hs', e = .returned v' ∧ Own 45 2 v' (l.take i ++ [x] ++ l.drop i).length ((l.take i ++ [x] ++ l.drop i).flatMap ceC) hs' ∧ Has E w' [hs', R] := by
        rintro e w' ⟨v', hs', rfl, hO, hX⟩
        refine ⟨v', hs', rfl, ?_, hX⟩
        rw [e2, e3] at hO
        have e4 : (l.take i ++ [x] ++ l.drop i).length = l.length + 1 := by simp only [List.length_append, List.length_take, List.length_drop, List.length_cons, List.length_nil]; omega
        rw [e4, List.flatMap_append, List.flatMap_append, show ([x] : List Cel).flatMap ceC = [(S x.1), (S x.2)] from rfl]; exact hO
      rcases Nat.lt_or_ge cap (l.length + 1) with g | g
      · exact Calls.mono (cins_grow b bu l.length cap i cur #[(S x.1), (S x.2)] hH h hnc g hcm' hsz rfl (by omega) h1 h2) key
      · exact Calls.mono (cins_room b bu l.length cap i cur #[(S x.1), (S x.2)] hH h hnc g hcm' hsz rfl (by omega) h1 h2) key
  · have : i = l.length := by omega
    subst this
    rw [List.take_of_length_le (Nat.le_refl _), List.drop_of_length_le (Nat.le_refl _), List.append_nil]
    exact cins_end hH ho hl
end Go.Q
namespace Go.Q
open Go.Proofs
set_option linter.unusedVariables false
set_option maxRecDepth 100000
attribute [local irreducible] wpList OK Code.wp
set_option maxHeartbeats 4000000 in
theorem pset_c {E w : World} {R : List Hp} {no : Int} {gsn : Int} {v_l : Value} {l : List Cel} {key : Bs} {v : Bool × Bs} {g : Int}  (hH : Has E w [R]) (h_l : Sl R 2 v_l l.length (l.flatMap ceC)) (hn : l.length ≤ 1000) :
    Calls Tryd.prog 16 #[(.agg #[(.int .i64 no), (.int .i64 gsn), v_l]), (S key), (.agg #[(.bool v.1), (S v.2)]), (.int .i64 g)] w fun e w' => ∃ (v1' : Value) (s2' : List Hp), e = .returned (.tuple #[(.agg #[(.int .i64 (setNo no gsn l key v g)), (.int .i64 (setG no gsn l key v g)), v1']), (.int .i64 (setE no gsn l key v g))]) ∧ (Own 45 2 v1' (setL no gsn l key v g).length ((setL no gsn l key v g).flatMap ceC) s2') ∧ Has E w' [s2', R] := by
  refine c_enter (args := [(.agg #[(.int .i64 no), (.int .i64 gsn), v_l]), (S key), (.agg #[(.bool v.1), (S v.2)]), (.int .i64 g)]) Tryd.func16 rfl Tryd.ntmps16 (by simp) ?_
  refine wp_seq_k fun K1 hK1 => ?_
  refine c_region ?_
  refine s_op (o_box (cs := #[(.int .i64 no), (.int .i64 gsn), v_l]) rfl rfl hH fun b2 w3 hH4 => ?_)
  refine s_op (o_box (cs := #[(.bool v.1), (S v.2)]) rfl rfl hH4 fun b5 w6 hH7 => ?_)
  refine s_op (o_alloc (cs := #[(.int .i64 0), (.int .i64 0), (.slice none 0 0)]) ti24 rfl hH7 fun b8 w9 hH10 => ?_)
  refine s_op (o_assign (v := (.int .i64 0)) rfl ?_)
  refine s_nil ?_
  refine t_norm (hK1 _ _ ?_)
  refine wp_seq_k fun K11 hK11 => ?_
  refine wp_seq_k fun K12 hK12 => ?_
  refine c_region ?_
  refine s_op (o_loadN (cs := [(.int .i64 no), (.int .i64 gsn), v_l]) Tryd.underlying24 rfl ti24 rfl hH10 (seg_sub 2 rfl) (CellsAt.one rfl) ?_)
  refine s_op (o_callf (vs := #[(.agg #[(.int .i64 no), (.int .i64 gsn), v_l])]) ca10 rfl (args1 rfl) (pright_c (no := no) (gsn := gsn) (l := l) hH10.all (h_l.mono (seg_sub 3 rfl))) ?_)
  rintro _ w15 ⟨rfl, hX13⟩
  refine ⟨_, rfl, ?_⟩
  have hH14 := hX13.of_all
  refine s_op (o_not rfl ?_)
  refine s_op (o_move (v := (.bool (!(pageR no gsn l)))) rfl ?_)
  rcases Bool.eq_false_or_eq_true (!(pageR no gsn l)) with h16 | h16
  · -- !(pageR no gsn l)
    refine s_off (b' := true) 16 rfl (congrArg Value.bool h16) rfl ?_
    refine s_off (b' := true) 16 rfl (congrArg Value.bool h16) rfl ?_
    refine s_off (b' := true) 16 rfl (congrArg Value.bool h16) rfl ?_
    refine s_off (b' := true) 16 rfl (congrArg Value.bool h16) rfl ?_
    refine s_op (o_pick_t (u := (.bool true)) ((rfl : _ = _).trans (congrArg Value.bool h16)) rfl ?_)
    refine s_op (o_move (v := (.bool true)) rfl ?_)
    refine s_off (b' := true) 22 rfl rfl rfl ?_
    refine s_off (b' := true) 22 rfl rfl rfl ?_
    refine s_off (b' := true) 22 rfl rfl rfl ?_
    refine s_off (b' := true) 22 rfl rfl rfl ?_
    refine s_op (o_pick_t (u := (.bool true)) rfl rfl ?_)
    refine s_op (o_move (v := (.bool true)) rfl ?_)
    refine s_off (b' := true) 28 rfl rfl rfl ?_
    refine s_off (b' := true) 28 rfl rfl rfl ?_
    refine s_off (b' := true) 28 rfl rfl rfl ?_
    refine s_off (b' := true) 28 rfl rfl rfl ?_
    refine s_op (o_pick_t (u := (.bool true)) rfl rfl ?_)
    refine s_op (o_move (v := (.bool true)) rfl ?_)
    refine s_off (b' := true) 34 rfl rfl rfl ?_
    refine s_off (b' := true) 34 rfl rfl rfl ?_
    refine s_op (o_pick_t (u := (.bool true)) rfl rfl ?_)
    refine s_nil ?_
    refine t_norm (hK12 _ _ ?_)
    refine c_true rfl rfl ?_
    refine wp_seq_k fun K17 hK17 => ?_
    refine c_region ?_
    refine s_op (o_sight (v := (.agg #[(.int .i64 0), (.int .i64 0), (.slice none 0 0)])) (fun _ => by kernel_rfl) ?_)
    refine s_eff (o_storeN (vs := [(.int .i64 0), (.int .i64 0), (.slice none 0 0)]) (c' := #[(.int .i64 0), (.int .i64 0), (.slice none 0 0)]) ti24 rfl rfl rfl rfl (by intro u hu; simp only [List.mem_cons, List.not_mem_nil, or_false] at hu; rcases hu with rfl | rfl | rfl <;> first | rfl) (by simp) (by kernel_rfl) (hH14.front 0 rfl) fun w18 hH19 => ?_)
    refine s_op (o_assign (v := (.int .i64 1)) rfl ?_)
    refine s_nil ?_
    refine t_norm (hK17 _ _ ?_)
    refine wp_ret ?_
    refine t_ret (c_retC2 Tryd.results16 rfl (run_loadVarN (cs := [(.int .i64 0), (.int .i64 0), (.slice none 0 0)]) Tryd.underlying24 rfl ti24 hH19 (seg_sub 0 rfl) (CellsAt.one rfl)) (x := (.int .i64 1)) rfl ?_)
    have hE_ : setE no gsn l key v g = 1 := setE_bad (by first | exact .inl (by simpa using h16) | exact .inr (.inl (by simpa using h16)) | exact .inr (.inr (.inl (by simpa using h16))) | exact .inr (.inr (.inr (.inl (by omega)))) | exact .inr (.inr (.inr (.inr (by omega)))))
    have q20 : (setNo no gsn l key v g) = 0 := by unfold setNo; rw [if_neg (by rw [hE_]; decide)]
    have q21 : (setG no gsn l key v g) = 0 := by unfold setG; rw [if_neg (by rw [hE_]; decide)]
    have q22 : (setL no gsn l key v g) = ([] : List Cel) := by unfold setL; rw [if_neg (by rw [hE_]; decide)]
    have q23 : (setE no gsn l key v g) = 1 := by exact hE_
    have hH24 : Has E w18 [[], R] := (Has.nil (hH19.front 3 rfl)).first 2 rfl
    exact ⟨_, _, by rw [q20, q21]; rw [q23], (by rw [q22]; exact (Own.nil 45 2)), hH24⟩
  · -- not: !(pageR no gsn l)
    refine s_on 16 rfl (congrArg Value.bool h16) (o_move (v := (S key)) rfl ?_)
    refine s_on 16 rfl (congrArg Value.bool h16) (o_buildSlice (ps := #[(0, (S key))]) (cells := #[(S key)]) Tryd.underlying32 ti9 (by decide) (parts1 rfl) (by kernel_rfl) hH14 fun b25 w26 hH27 => ?_)
    refine s_on 16 rfl (congrArg Value.bool h16) (o_callf (vs := #[(.slice (some ⟨b25, 0, none⟩) 1 1)]) ca39 rfl (args1 rfl) (key_c (l := [key]) hH27.all ((sl_lit (f := sV) (l := [key]) rfl rfl (by simp)).mono (seg_sub 0 rfl))) ?_)
    rintro _ w30 ⟨rfl, hX28⟩
    refine ⟨_, rfl, ?_⟩
    have hH29 := hX28.of_all
    refine s_on 16 rfl (congrArg Value.bool h16) (o_not rfl ?_)
    refine s_op (o_pick_f (u := (.bool (!([key].all keyR)))) ((rfl : _ = _).trans (congrArg Value.bool h16)) rfl ?_)
    refine s_op (o_move (v := (.bool (!([key].all keyR)))) rfl ?_)
    rcases Bool.eq_false_or_eq_true (!([key].all keyR)) with h31 | h31
    · -- !([key].all keyR)
      refine s_off (b' := true) 22 rfl (congrArg Value.bool h31) rfl ?_
      refine s_off (b' := true) 22 rfl (congrArg Value.bool h31) rfl ?_
      refine s_off (b' := true) 22 rfl (congrArg Value.bool h31) rfl ?_
      refine s_off (b' := true) 22 rfl (congrArg Value.bool h31) rfl ?_
      refine s_op (o_pick_t (u := (.bool true)) ((rfl : _ = _).trans (congrArg Value.bool h31)) rfl ?_)
      refine s_op (o_move (v := (.bool true)) rfl ?_)
      refine s_off (b' := true) 28 rfl rfl rfl ?_
      refine s_off (b' := true) 28 rfl rfl rfl ?_
      refine s_off (b' := true) 28 rfl rfl rfl ?_
      refine s_off (b' := true) 28 rfl rfl rfl ?_
      refine s_op (o_pick_t (u := (.bool true)) rfl rfl ?_)
      refine s_op (o_move (v := (.bool true)) rfl ?_)
      refine s_off (b' := true) 34 rfl rfl rfl ?_
      refine s_off (b' := true) 34 rfl rfl rfl ?_
      refine s_op (o_pick_t (u := (.bool true)) rfl rfl ?_)
      refine s_nil ?_
      refine t_norm (hK12 _ _ ?_)
      refine c_true rfl rfl ?_
      refine wp_seq_k fun K32 hK32 => ?_
      refine c_region ?_
      refine s_op (o_sight (v := (.agg #[(.int .i64 0), (.int .i64 0), (.slice none 0 0)])) (fun _ => by kernel_rfl) ?_)
      refine s_eff (o_storeN (vs := [(.int .i64 0), (.int .i64 0), (.slice none 0 0)]) (c' := #[(.int .i64 0), (.int .i64 0), (.slice none 0 0)]) ti24 rfl rfl rfl rfl (by intro u hu; simp only [List.mem_cons, List.not_mem_nil, or_false] at hu; rcases hu with rfl | rfl | rfl <;> first | rfl) (by simp) (by kernel_rfl) (hH29.front 1 rfl) fun w33 hH34 => ?_)
      refine s_op (o_assign (v := (.int .i64 1)) rfl ?_)
      refine s_nil ?_
      refine t_norm (hK32 _ _ ?_)
      refine wp_ret ?_
      refine t_ret (c_retC2 Tryd.results16 rfl (run_loadVarN (cs := [(.int .i64 0), (.int .i64 0), (.slice none 0 0)]) Tryd.underlying24 rfl ti24 hH34 (seg_sub 0 rfl) (CellsAt.one rfl)) (x := (.int .i64 1)) rfl ?_)
      have hE_ : setE no gsn l key v g = 1 := setE_bad (by first | exact .inl (by simpa using h16) | exact .inr (.inl (by simpa using h16)) | exact .inr (.inr (.inl (by simpa using h16))) | exact .inl (by simpa using h31) | exact .inr (.inl (by simpa using h31)) | exact .inr (.inr (.inl (by simpa using h31))) | exact .inr (.inr (.inr (.inl (by omega)))) | exact .inr (.inr (.inr (.inr (by omega)))))
      have q35 : (setNo no gsn l key v g) = 0 := by unfold setNo; rw [if_neg (by rw [hE_]; decide)]
      have q36 : (setG no gsn l key v g) = 0 := by unfold setG; rw [if_neg (by rw [hE_]; decide)]
      have q37 : (setL no gsn l key v g) = ([] : List Cel) := by unfold setL; rw [if_neg (by rw [hE_]; decide)]
      have q38 : (setE no gsn l key v g) = 1 := by exact hE_
      have hH39 : Has E w33 [[], R] := (Has.nil (hH34.front 4 rfl)).first 2 rfl
      exact ⟨_, _, by rw [q35, q36]; rw [q38], (by rw [q37]; exact (Own.nil 45 2)), hH39⟩
    · -- not: !([key].all keyR)
      refine s_on 22 rfl (congrArg Value.bool h31) (o_loadN (cs := [(.bool v.1), (S v.2)]) Tryd.underlying29 rfl ti29 rfl hH29 (seg_sub 2 rfl) (CellsAt.one rfl) ?_)
      refine s_on 22 rfl (congrArg Value.bool h31) (o_buildSlice (ps := #[(0, (.agg #[(.bool v.1), (S v.2)]))]) (cells := #[(.bool v.1), (S v.2)]) Tryd.underlying33 ti29 (by decide) (parts1 rfl) (by kernel_rfl) hH29 fun b40 w41 hH42 => ?_)
      refine s_on 22 rfl (congrArg Value.bool h31) (o_callf (vs := #[(.slice (some ⟨b40, 0, none⟩) 1 1)]) ca40 rfl (args1 rfl) (value_c (l := [(v.1, v.2)]) hH42.all ((sl_litF (f := vlC) (l := [(v.1, v.2)]) vlC_len rfl rfl (by simp)).mono (seg_sub 0 rfl))) ?_)
      rintro _ w45 ⟨rfl, hX43⟩
      refine ⟨_, rfl, ?_⟩
      have hH44 := hX43.of_all
      refine s_on 22 rfl (congrArg Value.bool h31) (o_not rfl ?_)
      refine s_op (o_pick_f (u := (.bool (!([(v.1, v.2)].all valR)))) ((rfl : _ = _).trans (congrArg Value.bool h31)) rfl ?_)
      refine s_op (o_move (v := (.bool (!([(v.1, v.2)].all valR)))) rfl ?_)
      rcases Bool.eq_false_or_eq_true (!([(v.1, v.2)].all valR)) with h46 | h46
      · -- !([(v.1, v.2)].all valR)
        refine s_off (b' := true) 28 rfl (congrArg Value.bool h46) rfl ?_
        refine s_off (b' := true) 28 rfl (congrArg Value.bool h46) rfl ?_
        refine s_off (b' := true) 28 rfl (congrArg Value.bool h46) rfl ?_
        refine s_off (b' := true) 28 rfl (congrArg Value.bool h46) rfl ?_
        refine s_op (o_pick_t (u := (.bool true)) ((rfl : _ = _).trans (congrArg Value.bool h46)) rfl ?_)
        refine s_op (o_move (v := (.bool true)) rfl ?_)
        refine s_off (b' := true) 34 rfl rfl rfl ?_
        refine s_off (b' := true) 34 rfl rfl rfl ?_
        refine s_op (o_pick_t (u := (.bool true)) rfl rfl ?_)
        refine s_nil ?_
        refine t_norm (hK12 _ _ ?_)
        refine c_true rfl rfl ?_
        refine wp_seq_k fun K47 hK47 => ?_
        refine c_region ?_
        refine s_op (o_sight (v := (.agg #[(.int .i64 0), (.int .i64 0), (.slice none 0 0)])) (fun _ => by kernel_rfl) ?_)
        refine s_eff (o_storeN (vs := [(.int .i64 0), (.int .i64 0), (.slice none 0 0)]) (c' := #[(.int .i64 0), (.int .i64 0), (.slice none 0 0)]) ti24 rfl rfl rfl rfl (by intro u hu; simp only [List.mem_cons, List.not_mem_nil, or_false] at hu; rcases hu with rfl | rfl | rfl <;> first | rfl) (by simp) (by kernel_rfl) (hH44.front 2 rfl) fun w48 hH49 => ?_)
        refine s_op (o_assign (v := (.int .i64 1)) rfl ?_)
        refine s_nil ?_
        refine t_norm (hK47 _ _ ?_)
        refine wp_ret ?_
        refine t_ret (c_retC2 Tryd.results16 rfl (run_loadVarN (cs := [(.int .i64 0), (.int .i64 0), (.slice none 0 0)]) Tryd.underlying24 rfl ti24 hH49 (seg_sub 0 rfl) (CellsAt.one rfl)) (x := (.int .i64 1)) rfl ?_)
        have hE_ : setE no gsn l key v g = 1 := setE_bad (by first | exact .inl (by simpa using h16) | exact .inr (.inl (by simpa using h16)) | exact .inr (.inr (.inl (by simpa using h16))) | exact .inl (by simpa using h31) | exact .inr (.inl (by simpa using h31)) | exact .inr (.inr (.inl (by simpa using h31))) | exact .inl (by simpa using h46) | exact .inr (.inl (by simpa using h46)) | exact .inr (.inr (.inl (by simpa using h46))) | exact .inr (.inr (.inr (.inl (by omega)))) | exact .inr (.inr (.inr (.inr (by omega)))))
        have q50 : (setNo no gsn l key v g) = 0 := by unfold setNo; rw [if_neg (by rw [hE_]; decide)]
        have q51 : (setG no gsn l key v g) = 0 := by unfold setG; rw [if_neg (by rw [hE_]; decide)]
        have q52 : (setL no gsn l key v g) = ([] : List Cel) := by unfold setL; rw [if_neg (by rw [hE_]; decide)]
        have q53 : (setE no gsn l key v g) = 1 := by exact hE_
        have hH54 : Has E w48 [[], R] := (Has.nil (hH49.front 5 rfl)).first 2 rfl
        exact ⟨_, _, by rw [q50, q51]; rw [q53], (by rw [q52]; exact (Own.nil 45 2)), hH54⟩
      · -- not: !([(v.1, v.2)].all valR)
        refine s_on 28 rfl (congrArg Value.bool h46) (o_move (v := (.int .i64 g)) rfl ?_)
        refine s_on 28 rfl (congrArg Value.bool h46) (o_fieldAddr (k := 1) (fun _ => by kernel_rfl) rfl ?_)
        refine s_on 28 rfl (congrArg Value.bool h46) (o_load1 (v := (.int .i64 gsn)) Tryd.underlying3 rfl rfl hH44 (seg_sub 4 rfl) (CellsAt.one rfl) ?_)
        refine s_on 28 rfl (congrArg Value.bool h46) (o_leq (a := g) (b := gsn) rfl rfl ?_)
        refine s_op (o_pick_f (u := (.bool (decide (g ≤ gsn)))) ((rfl : _ = _).trans (congrArg Value.bool h46)) rfl ?_)
        refine s_op (o_move (v := (.bool (decide (g ≤ gsn)))) rfl ?_)
        by_cases h55 : g ≤ gsn
        · -- g ≤ gsn
          refine s_off (b' := true) 34 rfl (congrArg Value.bool (decide_eq_true h55)) rfl ?_
          refine s_off (b' := true) 34 rfl (congrArg Value.bool (decide_eq_true h55)) rfl ?_
          refine s_op (o_pick_t (u := (.bool true)) ((rfl : _ = _).trans (congrArg Value.bool (decide_eq_true h55))) rfl ?_)
          refine s_nil ?_
          refine t_norm (hK12 _ _ ?_)
          refine c_true rfl rfl ?_
          refine wp_seq_k fun K56 hK56 => ?_
          refine c_region ?_
          refine s_op (o_sight (v := (.agg #[(.int .i64 0), (.int .i64 0), (.slice none 0 0)])) (fun _ => by kernel_rfl) ?_)
          refine s_eff (o_storeN (vs := [(.int .i64 0), (.int .i64 0), (.slice none 0 0)]) (c' := #[(.int .i64 0), (.int .i64 0), (.slice none 0 0)]) ti24 rfl rfl rfl rfl (by intro u hu; simp only [List.mem_cons, List.not_mem_nil, or_false] at hu; rcases hu with rfl | rfl | rfl <;> first | rfl) (by simp) (by kernel_rfl) (hH44.front 2 rfl) fun w57 hH58 => ?_)
          refine s_op (o_assign (v := (.int .i64 1)) rfl ?_)
          refine s_nil ?_
          refine t_norm (hK56 _ _ ?_)
          refine wp_ret ?_
          refine t_ret (c_retC2 Tryd.results16 rfl (run_loadVarN (cs := [(.int .i64 0), (.int .i64 0), (.slice none 0 0)]) Tryd.underlying24 rfl ti24 hH58 (seg_sub 0 rfl) (CellsAt.one rfl)) (x := (.int .i64 1)) rfl ?_)
          have hE_ : setE no gsn l key v g = 1 := setE_bad (by first | exact .inl (by simpa using h16) | exact .inr (.inl (by simpa using h16)) | exact .inr (.inr (.inl (by simpa using h16))) | exact .inl (by simpa using h31) | exact .inr (.inl (by simpa using h31)) | exact .inr (.inr (.inl (by simpa using h31))) | exact .inl (by simpa using h46) | exact .inr (.inl (by simpa using h46)) | exact .inr (.inr (.inl (by simpa using h46))) | exact .inl (by simpa using h55) | exact .inr (.inl (by simpa using h55)) | exact .inr (.inr (.inl (by simpa using h55))) | exact .inr (.inr (.inr (.inl (by omega)))) | exact .inr (.inr (.inr (.inr (by omega)))))
          have q59 : (setNo no gsn l key v g) = 0 := by unfold setNo; rw [if_neg (by rw [hE_]; decide)]
          have q60 : (setG no gsn l key v g) = 0 := by unfold setG; rw [if_neg (by rw [hE_]; decide)]
          have q61 : (setL no gsn l key v g) = ([] : List Cel) := by unfold setL; rw [if_neg (by rw [hE_]; decide)]
          have q62 : (setE no gsn l key v g) = 1 := by exact hE_
          have hH63 : Has E w57 [[], R] := (Has.nil (hH58.front 5 rfl)).first 2 rfl
          exact ⟨_, _, by rw [q59, q60]; rw [q62], (by rw [q61]; exact (Own.nil 45 2)), hH63⟩
        · -- not: g ≤ gsn
          refine s_on 34 rfl (congrArg Value.bool (decide_eq_false h55)) (o_move (v := (.int .i64 g)) rfl ?_)
          refine s_on 34 rfl (congrArg Value.bool (decide_eq_false h55)) (o_gtr (a := g) (b := 4611686018427387903) rfl rfl ?_)
          refine s_op (o_pick_f (u := (.bool (decide (4611686018427387903 < g)))) ((rfl : _ = _).trans (congrArg Value.bool (decide_eq_false h55))) rfl ?_)
          refine s_nil ?_
          refine t_norm (hK12 _ _ ?_)
          refine c_cond rfl (fun h64 => ?_) (fun h64 => ?_)
          · -- 4611686018427387903 < g
            refine wp_seq_k fun K65 hK65 => ?_
            refine c_region ?_
            refine s_op (o_sight (v := (.agg #[(.int .i64 0), (.int .i64 0), (.slice none 0 0)])) (fun _ => by kernel_rfl) ?_)
            refine s_eff (o_storeN (vs := [(.int .i64 0), (.int .i64 0), (.slice none 0 0)]) (c' := #[(.int .i64 0), (.int .i64 0), (.slice none 0 0)]) ti24 rfl rfl rfl rfl (by intro u hu; simp only [List.mem_cons, List.not_mem_nil, or_false] at hu; rcases hu with rfl | rfl | rfl <;> first | rfl) (by simp) (by kernel_rfl) (hH44.front 2 rfl) fun w66 hH67 => ?_)
            refine s_op (o_assign (v := (.int .i64 1)) rfl ?_)
            refine s_nil ?_
            refine t_norm (hK65 _ _ ?_)
            refine wp_ret ?_
            refine t_ret (c_retC2 Tryd.results16 rfl (run_loadVarN (cs := [(.int .i64 0), (.int .i64 0), (.slice none 0 0)]) Tryd.underlying24 rfl ti24 hH67 (seg_sub 0 rfl) (CellsAt.one rfl)) (x := (.int .i64 1)) rfl ?_)
            have hE_ : setE no gsn l key v g = 1 := setE_bad (by first | exact .inl (by simpa using h16) | exact .inr (.inl (by simpa using h16)) | exact .inr (.inr (.inl (by simpa using h16))) | exact .inl (by simpa using h31) | exact .inr (.inl (by simpa using h31)) | exact .inr (.inr (.inl (by simpa using h31))) | exact .inl (by simpa using h46) | exact .inr (.inl (by simpa using h46)) | exact .inr (.inr (.inl (by simpa using h46))) | exact .inl (by simpa using h55) | exact .inr (.inl (by simpa using h55)) | exact .inr (.inr (.inl (by simpa using h55))) | exact .inl (by simpa using h64) | exact .inr (.inl (by simpa using h64)) | exact .inr (.inr (.inl (by simpa using h64))) | exact .inr (.inr (.inr (.inl (by omega)))) | exact .inr (.inr (.inr (.inr (by omega)))))
            have q68 : (setNo no gsn l key v g) = 0 := by unfold setNo; rw [if_neg (by rw [hE_]; decide)]
            have q69 : (setG no gsn l key v g) = 0 := by unfold setG; rw [if_neg (by rw [hE_]; decide)]
            have q70 : (setL no gsn l key v g) = ([] : List Cel) := by unfold setL; rw [if_neg (by rw [hE_]; decide)]
            have q71 : (setE no gsn l key v g) = 1 := by exact hE_
            have hH72 : Has E w66 [[], R] := (Has.nil (hH67.front 5 rfl)).first 2 rfl
            exact ⟨_, _, by rw [q68, q69]; rw [q71], (by rw [q70]; exact (Own.nil 45 2)), hH72⟩
          · -- not: 4611686018427387903 < g
            have hP_ := pageR_iff.1 (by first | (simpa using h16))
            have hC_ := cellsR_iff.1 hP_.2
            have hs := hC_.2.1
            have hl := hC_.2.2
            have hok_ := setE_ok (g := g) (v := v) (key := key) (by first | (simpa using h16)) (by first | (simpa using h31)) (by first | (simpa using h46)) (by omega) (by omega)
            refine wp_skip ?_
            refine t_norm (hK11 _ _ ?_)
            refine wp_seq_k fun K73 hK73 => ?_
            refine c_region ?_
            refine s_op (o_loadN (cs := [(.int .i64 no), (.int .i64 gsn), v_l]) Tryd.underlying24 rfl ti24 rfl hH44 (seg_sub 4 rfl) (CellsAt.one rfl) ?_)
            refine s_op (o_move (v := (S key)) rfl ?_)
            refine s_op (o_callf (vs := #[(.agg #[(.int .i64 no), (.int .i64 gsn), v_l]), (S key)]) ca41 rfl (args2 rfl rfl) (find_c (no := no) (gsn := gsn) (l := l) (key := key) hH44.all (h_l.mono (seg_sub 5 rfl)) (by first | omega | (simp only []; omega) | (simp; done) | (simp; omega)) (by first | omega | (simp only []; omega) | (simp; done) | (simp; omega))) ?_)
            rintro _ w76 ⟨rfl, hX74⟩
            refine ⟨_, rfl, ?_⟩
            have hH75 := hX74.of_all
            have hpc_ := posC_le l key
            refine s_op (o_move (v := (.tuple #[(.int .i64 (posC l key)), (.bool (hasC l key))])) rfl ?_)
            refine s_op (o_extract (v := (.int .i64 (posC l key))) rfl rfl ?_)
            refine s_op (o_extract (v := (.bool (hasC l key))) rfl rfl ?_)
            refine s_op (o_assign (v := (.int .i64 (posC l key))) rfl ?_)
            refine s_op (o_assign (v := (.bool (hasC l key))) rfl ?_)
            refine s_nil ?_
            refine t_norm (hK73 _ _ ?_)
            refine wp_seq_k fun K77 hK77 => ?_
            refine c_region ?_
            refine s_op (o_fieldAddr (k := 2) (fun _ => by kernel_rfl) rfl ?_)
            refine s_op (o_load1 (v := v_l) Tryd.underlying22 rfl rfl hH75 (seg_sub 4 rfl) (CellsAt.one rfl) ?_)
            refine s_op (o_callf (vs := #[v_l]) ca42 rfl (args1 rfl) (cclone_c (l := l) hH75.all (h_l.mono (seg_sub 5 rfl)) (by first | omega | (simp only []; omega) | (simp; done) | (simp; omega))) ?_)
            rintro _ w83 ⟨v78, s79, rfl, ho80, hX81⟩
            refine ⟨_, rfl, ?_⟩
            have hH82 : Has E w83 [s79, [Hp.one b40 (.cells #[(.bool v.1), (S v.2)] 29 (0, 0))], [Hp.one b25 (.cells #[(S key)] 9 (0, 0))], [Hp.one b8 (.cells #[(.int .i64 0), (.int .i64 0), (.slice none 0 0)] 24 (0, 0))], [Hp.one b5 (.cells #[(.bool v.1), (S v.2)] 29 (0, 0))], [Hp.one b2 (.cells #[(.int .i64 no), (.int .i64 gsn), v_l] 24 (0, 0))], R] := hX81.of_all1
            refine s_op (o_assign (v := v78) rfl ?_)
            refine s_nil ?_
            refine t_norm (hK77 _ _ ?_)
            refine wp_seq_k fun K84 hK84 => ?_
            refine wp_block ?_
            refine wp_seq_k fun K85 hK85 => ?_
            refine c_region ?_
            refine s_op (o_fieldAddr (k := 0) (fun _ => by kernel_rfl) rfl ?_)
            refine s_op (o_load1 (v := (.bool v.1)) Tryd.underlying4 rfl rfl hH82 (seg_sub 4 rfl) (CellsAt.one rfl) ?_)
            refine s_op (o_not rfl ?_)
            refine s_op (o_move (v := (.bool (!v.1))) rfl ?_)
            rcases Bool.eq_false_or_eq_true (!v.1) with h86 | h86
            · -- !v.1
              refine s_on 60 rfl (congrArg Value.bool h86) (o_move (v := (.bool (hasC l key))) rfl ?_)
              refine s_on 60 rfl (congrArg Value.bool h86) (o_not rfl ?_)
              refine s_op (o_pick_t (u := (.bool (!(hasC l key)))) ((rfl : _ = _).trans (congrArg Value.bool h86)) rfl ?_)
              refine s_op (o_assign (v := (.bool (!(hasC l key)))) rfl ?_)
              refine s_nil ?_
              refine t_norm (hK85 _ _ ?_)
              refine c_condb rfl (fun h87 => ?_) (fun h87 => ?_)
              · -- !(hasC l key)
                have h87_n : (hasC l key) = false := by simpa using h87
                refine wp_seq_k fun K88 hK88 => ?_
                refine c_region ?_
                refine s_op (o_sight (v := (.agg #[(.int .i64 0), (.int .i64 0), (.slice none 0 0)])) (fun _ => by kernel_rfl) ?_)
                refine s_eff (o_storeN (vs := [(.int .i64 0), (.int .i64 0), (.slice none 0 0)]) (c' := #[(.int .i64 0), (.int .i64 0), (.slice none 0 0)]) ti24 rfl rfl rfl rfl (by intro u hu; simp only [List.mem_cons, List.not_mem_nil, or_false] at hu; rcases hu with rfl | rfl | rfl <;> first | rfl) (by simp) (by kernel_rfl) (hH82.front 3 rfl) fun w89 hH90 => ?_)
                refine s_op (o_assign (v := (.int .i64 7)) rfl ?_)
                refine s_nil ?_
                refine t_norm (hK88 _ _ ?_)
                refine wp_ret ?_
                refine b_ret (t_ret (c_retC2 Tryd.results16 rfl (run_loadVarN (cs := [(.int .i64 0), (.int .i64 0), (.slice none 0 0)]) Tryd.underlying24 rfl ti24 hH90 (seg_sub 0 rfl) (CellsAt.one rfl)) (x := (.int .i64 7)) rfl ?_))
                have hv1_ : v.1 = false := (by first | (simpa using h86))
                have hE_ : setE no gsn l key v g = 7 := by rw [hok_]; simp [h87, h87_n, hv1_]; try omega
                have q91 : (setNo no gsn l key v g) = 0 := by unfold setNo; rw [if_neg (by rw [hE_]; decide)]
                have q92 : (setG no gsn l key v g) = 0 := by unfold setG; rw [if_neg (by rw [hE_]; decide)]
                have q93 : (setL no gsn l key v g) = ([] : List Cel) := by unfold setL; rw [if_neg (by rw [hE_]; decide)]
                have q94 : (setE no gsn l key v g) = 7 := by exact hE_
                have hH95 : Has E w89 [[], R] := (Has.nil (hH90.front 6 rfl)).first 2 rfl
                exact ⟨_, _, by rw [q91, q92]; rw [q94], (by rw [q93]; exact (Own.nil 45 2)), hH95⟩
              · -- not: !(hasC l key)
                have h87_n : (hasC l key) = true := by simpa using h87
                obtain ⟨hpl_, v0_, hx0_⟩ := hasC_at hs (by simpa using h87)
                refine wp_seq_k fun K96 hK96 => ?_
                refine c_region ?_
                refine s_op (o_fieldAddr (k := 0) (fun _ => by kernel_rfl) rfl ?_)
                refine s_op (o_load1 (v := (.bool v.1)) Tryd.underlying4 rfl rfl hH82 (seg_sub 4 rfl) (CellsAt.one rfl) ?_)
                refine s_op (o_not rfl ?_)
                refine s_op (o_assign (v := (.bool (!v.1))) rfl ?_)
                refine s_nil ?_
                refine t_norm (hK96 _ _ ?_)
                refine c_true rfl h86 ?_
                refine c_region ?_
                refine s_op (o_move (v := v78) rfl ?_)
                refine s_op (o_move (v := (.int .i64 (posC l key))) rfl ?_)
                refine s_op (o_move (v := (.int .i64 (posC l key))) rfl ?_)
                refine s_op (o_add (a := (posC l key)) (b := 1) rfl rfl (w64 (by omega) (by omega)) ?_)
                obtain ⟨ni100, hni100⟩ : ∃ n_ : Nat, (posC l key) = (n_ : Int) := ⟨((posC l key)).toNat, by omega⟩
                have hni100_ : ((posC l key)).toNat = ni100 := by omega
                refine s_op (o_callf (vs := #[v78, (.int .i64 (posC l key)), (.int .i64 ((posC l key) + 1))]) ca43 rfl (args3 rfl rfl rfl) ((by rw [hni100]; exact cdel_own (l := l) ni100 (by omega) hH82.all1 ho80 (by omega))) ?_)
                rintro _ w103 ⟨v97, s98, rfl, ho99, hX101⟩
                refine ⟨_, rfl, ?_⟩
                have hH102 : Has E w103 [s98, [Hp.one b40 (.cells #[(.bool v.1), (S v.2)] 29 (0, 0))], [Hp.one b25 (.cells #[(S key)] 9 (0, 0))], [Hp.one b8 (.cells #[(.int .i64 0), (.int .i64 0), (.slice none 0 0)] 24 (0, 0))], [Hp.one b5 (.cells #[(.bool v.1), (S v.2)] 29 (0, 0))], [Hp.one b2 (.cells #[(.int .i64 no), (.int .i64 gsn), v_l] 24 (0, 0))], R] := hX101.of_all1
                refine s_op (o_assign (v := v97) rfl ?_)
                refine s_nil ?_
                refine b_norm ?_
                refine t_norm (hK84 _ _ ?_)
                refine wp_seq_k fun K104 hK104 => ?_
                refine c_region ?_
                refine s_op (o_fieldAddr (k := 0) (fun _ => by kernel_rfl) rfl ?_)
                refine s_op (o_load1 (v := (.int .i64 no)) Tryd.underlying3 rfl rfl hH102 (seg_sub 5 rfl) (CellsAt.one rfl) ?_)
                refine s_op (o_move (v := (.int .i64 g)) rfl ?_)
                refine s_op (o_move (v := v97) rfl ?_)
                obtain ⟨p105, c106, rfl⟩ := Sl.form (Own.sl ho99)
                refine s_op (o_sight (v := (.agg #[(.int .i64 no), (.int .i64 g), (.slice p105 (l.take ni100 ++ l.drop (ni100 + 1)).length c106)])) (fun _ => by kernel_rfl) ?_)
                refine s_eff (o_storeN (vs := [(.int .i64 no), (.int .i64 g), (.slice p105 (l.take ni100 ++ l.drop (ni100 + 1)).length c106)]) (c' := #[(.int .i64 no), (.int .i64 g), (.slice p105 (l.take ni100 ++ l.drop (ni100 + 1)).length c106)]) ti24 rfl rfl rfl rfl (by intro u hu; simp only [List.mem_cons, List.not_mem_nil, or_false] at hu; rcases hu with rfl | rfl | rfl <;> first | rfl | exact ho99.one) (by simp) (by kernel_rfl) (hH102.front 3 rfl) fun w107 hH108 => ?_)
                refine s_op (o_assign (v := (.int .i64 0)) rfl ?_)
                refine s_nil ?_
                refine t_norm (hK104 _ _ ?_)
                refine wp_ret ?_
                refine c_retC2 Tryd.results16 rfl (run_loadVarN (cs := [(.int .i64 no), (.int .i64 g), (.slice p105 (l.take ni100 ++ l.drop (ni100 + 1)).length c106)]) Tryd.underlying24 rfl ti24 hH108 (seg_sub 0 rfl) (CellsAt.one rfl)) (x := (.int .i64 0)) rfl ?_
                have hv1_ : v.1 = false := (by first | (simpa using h86))
                have hE_ : setE no gsn l key v g = 0 := by rw [hok_]; simp [h87, h87_n, hv1_]; try omega
                have q109 : (setNo no gsn l key v g) = no := by unfold setNo; rw [if_pos hE_]
                have q110 : (setG no gsn l key v g) = g := by unfold setG; rw [if_pos hE_]
                have q111 : (setL no gsn l key v g) = (l.take ni100 ++ l.drop (ni100 + 1)) := by unfold setL; rw [if_pos hE_]; unfold setC; simp [h87, h87_n, hv1_, hni100_]
                have q112 : (setE no gsn l key v g) = 0 := by exact hE_
                have hH113 : Has E w107 [s98, R] := ((hH108.front 6 rfl).front 2 rfl).first 2 rfl
                exact ⟨_, _, by rw [q109, q110]; rw [q112], (by rw [q111]; exact ho99), hH113⟩
            · -- not: !v.1
              refine s_off (b' := false) 60 rfl (congrArg Value.bool h86) rfl ?_
              refine s_off (b' := false) 60 rfl (congrArg Value.bool h86) rfl ?_
              refine s_op (o_pick_f (u := (.bool false)) ((rfl : _ = _).trans (congrArg Value.bool h86)) rfl ?_)
              refine s_op (o_assign (v := (.bool false)) rfl ?_)
              refine s_nil ?_
              refine t_norm (hK85 _ _ ?_)
              refine c_false rfl rfl ?_
              refine wp_seq_k fun K114 hK114 => ?_
              refine c_region ?_
              refine s_op (o_fieldAddr (k := 0) (fun _ => by kernel_rfl) rfl ?_)
              refine s_op (o_load1 (v := (.bool v.1)) Tryd.underlying4 rfl rfl hH82 (seg_sub 4 rfl) (CellsAt.one rfl) ?_)
              refine s_op (o_not rfl ?_)
              refine s_op (o_assign (v := (.bool (!v.1))) rfl ?_)
              refine s_nil ?_
              refine t_norm (hK114 _ _ ?_)
              refine c_false rfl h86 ?_
              refine wp_seq_k fun K115 hK115 => ?_
              refine c_region ?_
              refine s_op (o_move (v := (.bool (hasC l key))) rfl ?_)
              refine s_op (o_assign (v := (.bool (hasC l key))) rfl ?_)
              refine s_nil ?_
              refine t_norm (hK115 _ _ ?_)
              refine c_condb rfl (fun h116 => ?_) (fun h116 => ?_)
              · -- (hasC l key)
                obtain ⟨hpl_, v0_, hx0_⟩ := hasC_at hs (by simpa using h116)
                refine c_region ?_
                refine s_op (o_move (v := v78) rfl ?_)
                refine s_op (o_move (v := (.int .i64 (posC l key))) rfl ?_)
                refine s_op (o_fieldAddr (k := 1) (fun _ => by kernel_rfl) rfl ?_)
                refine s_op (o_load1 (v := (S v.2)) Tryd.underlying9 rfl rfl hH82 (seg_sub 4 rfl) (CellsAt.one rfl) ?_)
                refine s_op (o_ownAddrF Tryd.underlying22 ti45 rfl ho80 rfl (by omega) (by first | omega | (simp only [List.length_append, List.length_cons, List.length_nil, List.length_set]; omega)) fun b117 ho118 => ?_)
                refine s_op (o_fieldAddr (k := ((posC l key)).toNat * 2 + 1) (fun _ => by kernel_rfl) rfl ?_)
                refine s_eff (o_ownStoreC (f := ceC) (l := l) (a := ((key, v0_) : Cel)) (a' := ((((key, v0_) : Cel).1, v.2) : Cel)) (i := ((posC l key)).toNat) (k := 1) ceC_len ti9 rfl rfl rfl (by decide) hx0_ rfl ho118 (by first | rfl | (simp only [List.length_append, List.length_cons, List.length_nil, List.length_set]; done) | simp) hH82 fun s119 w120 ho121 hH122 => ?_)
                refine s_nil ?_
                refine b_norm ?_
                refine t_norm (hK84 _ _ ?_)
                refine wp_seq_k fun K123 hK123 => ?_
                refine c_region ?_
                refine s_op (o_fieldAddr (k := 0) (fun _ => by kernel_rfl) rfl ?_)
                refine s_op (o_load1 (v := (.int .i64 no)) Tryd.underlying3 rfl rfl hH122 (seg_sub 5 rfl) (CellsAt.one rfl) ?_)
                refine s_op (o_move (v := (.int .i64 g)) rfl ?_)
                refine s_op (o_move (v := v78) rfl ?_)
                obtain ⟨p124, c125, rfl⟩ := Sl.form (Own.sl ho121)
                refine s_op (o_sight (v := (.agg #[(.int .i64 no), (.int .i64 g), (.slice p124 (l.set (((posC l key)).toNat) ((((key, v0_) : Cel).1, v.2) : Cel)).length c125)])) (fun _ => by kernel_rfl) ?_)
                refine s_eff (o_storeN (vs := [(.int .i64 no), (.int .i64 g), (.slice p124 (l.set (((posC l key)).toNat) ((((key, v0_) : Cel).1, v.2) : Cel)).length c125)]) (c' := #[(.int .i64 no), (.int .i64 g), (.slice p124 (l.set (((posC l key)).toNat) ((((key, v0_) : Cel).1, v.2) : Cel)).length c125)]) ti24 rfl rfl rfl rfl (by intro u hu; simp only [List.mem_cons, List.not_mem_nil, or_false] at hu; rcases hu with rfl | rfl | rfl <;> first | rfl | exact ho121.one) (by simp) (by kernel_rfl) (hH122.front 3 rfl) fun w126 hH127 => ?_)
                refine s_op (o_assign (v := (.int .i64 0)) rfl ?_)
                refine s_nil ?_
                refine t_norm (hK123 _ _ ?_)
                refine wp_ret ?_
                refine c_retC2 Tryd.results16 rfl (run_loadVarN (cs := [(.int .i64 no), (.int .i64 g), (.slice p124 (l.set (((posC l key)).toNat) ((((key, v0_) : Cel).1, v.2) : Cel)).length c125)]) Tryd.underlying24 rfl ti24 hH127 (seg_sub 0 rfl) (CellsAt.one rfl)) (x := (.int .i64 0)) rfl ?_
                have hv1_ : v.1 = true := (by first | (simpa using h86))
                have hE_ : setE no gsn l key v g = 0 := by rw [hok_]; simp [h116, hv1_]; try omega
                have q128 : (setNo no gsn l key v g) = no := by unfold setNo; rw [if_pos hE_]
                have q129 : (setG no gsn l key v g) = g := by unfold setG; rw [if_pos hE_]
                have q130 : (setL no gsn l key v g) = (l.set (((posC l key)).toNat) ((((key, v0_) : Cel).1, v.2) : Cel)) := by unfold setL; rw [if_pos hE_]; unfold setC; simp [h116, hv1_]
                have q131 : (setE no gsn l key v g) = 0 := by exact hE_
                have hH132 : Has E w126 [s119, R] := ((hH127.front 6 rfl).front 2 rfl).first 2 rfl
                exact ⟨_, _, by rw [q128, q129]; rw [q131], (by rw [q130]; exact ho121), hH132⟩
              · -- not: (hasC l key)
                refine wp_seq_k fun K133 hK133 => ?_
                refine c_region ?_
                refine s_op (o_move (v := v78) rfl ?_)
                refine s_op (o_lenS Tryd.underlying22 rfl ho80.sl ?_)
                refine s_op (o_geq (a := ((l.length : Nat) : Int)) (b := 8) rfl rfl ?_)
                refine s_op (o_assign (v := (.bool (decide (8 ≤ ((l.length : Nat) : Int))))) rfl ?_)
                refine s_nil ?_
                refine t_norm (hK133 _ _ ?_)
                refine c_cond rfl (fun h134 => ?_) (fun h134 => ?_)
                · -- 8 ≤ ((l.length : Nat) : Int)
                  refine wp_seq_k fun K135 hK135 => ?_
                  refine c_region ?_
                  refine s_op (o_sight (v := (.agg #[(.int .i64 0), (.int .i64 0), (.slice none 0 0)])) (fun _ => by kernel_rfl) ?_)
                  refine s_eff (o_storeN (vs := [(.int .i64 0), (.int .i64 0), (.slice none 0 0)]) (c' := #[(.int .i64 0), (.int .i64 0), (.slice none 0 0)]) ti24 rfl rfl rfl rfl (by intro u hu; simp only [List.mem_cons, List.not_mem_nil, or_false] at hu; rcases hu with rfl | rfl | rfl <;> first | rfl) (by simp) (by kernel_rfl) (hH82.front 3 rfl) fun w136 hH137 => ?_)
                  refine s_op (o_assign (v := (.int .i64 4)) rfl ?_)
                  refine s_nil ?_
                  refine t_norm (hK135 _ _ ?_)
                  refine wp_ret ?_
                  refine b_ret (t_ret (c_retC2 Tryd.results16 rfl (run_loadVarN (cs := [(.int .i64 0), (.int .i64 0), (.slice none 0 0)]) Tryd.underlying24 rfl ti24 hH137 (seg_sub 0 rfl) (CellsAt.one rfl)) (x := (.int .i64 4)) rfl ?_))
                  have hv1_ : v.1 = true := (by first | (simpa using h86))
                  have hE_ : setE no gsn l key v g = 4 := by rw [hok_]; simp [h116, h134, hv1_]; try omega
                  have q138 : (setNo no gsn l key v g) = 0 := by unfold setNo; rw [if_neg (by rw [hE_]; decide)]
                  have q139 : (setG no gsn l key v g) = 0 := by unfold setG; rw [if_neg (by rw [hE_]; decide)]
                  have q140 : (setL no gsn l key v g) = ([] : List Cel) := by unfold setL; rw [if_neg (by rw [hE_]; decide)]
                  have q141 : (setE no gsn l key v g) = 4 := by exact hE_
                  have hH142 : Has E w136 [[], R] := (Has.nil (hH137.front 6 rfl)).first 2 rfl
                  exact ⟨_, _, by rw [q138, q139]; rw [q141], (by rw [q140]; exact (Own.nil 45 2)), hH142⟩
                · -- not: 8 ≤ ((l.length : Nat) : Int)
                  refine c_region ?_
                  refine s_op (o_move (v := v78) rfl ?_)
                  refine s_op (o_move (v := (.int .i64 (posC l key))) rfl ?_)
                  refine s_op (o_move (v := (S key)) rfl ?_)
                  refine s_op (o_fieldAddr (k := 1) (fun _ => by kernel_rfl) rfl ?_)
                  refine s_op (o_load1 (v := (S v.2)) Tryd.underlying9 rfl rfl hH82 (seg_sub 4 rfl) (CellsAt.one rfl) ?_)
                  refine s_op (o_sight (v := (.agg #[(S key), (S v.2)])) (fun _ => by kernel_rfl) ?_)
                  refine s_op (o_buildSlice (ps := #[(0, (.agg #[(S key), (S v.2)]))]) (cells := #[(S key), (S v.2)]) Tryd.underlying22 ti45 (by decide) (parts1 rfl) (by kernel_rfl) hH82 fun b143 w144 hH145 => ?_)
                  obtain ⟨ni149, hni149⟩ : ∃ n_ : Nat, (posC l key) = (n_ : Int) := ⟨((posC l key)).toNat, by omega⟩
                  have hni149_ : ((posC l key)).toNat = ni149 := by omega
                  refine s_op (o_callf (vs := #[v78, (.int .i64 (posC l key)), (.slice (some ⟨b143, 0, none⟩) 1 1)]) ca44 rfl (args3 rfl rfl rfl) ((by rw [hni149]; exact cins_own (l := l) (x := ((key, v.2) : Cel)) ni149 (by omega) (hH145.front 1 rfl).all2 ho80 (by omega))) ?_)
                  rintro _ w152 ⟨v146, s147, rfl, ho148, hX150⟩
                  refine ⟨_, rfl, ?_⟩
                  have hH151 : Has E w152 [s147, [Hp.one b40 (.cells #[(.bool v.1), (S v.2)] 29 (0, 0))], [Hp.one b25 (.cells #[(S key)] 9 (0, 0))], [Hp.one b8 (.cells #[(.int .i64 0), (.int .i64 0), (.slice none 0 0)] 24 (0, 0))], [Hp.one b5 (.cells #[(.bool v.1), (S v.2)] 29 (0, 0))], [Hp.one b2 (.cells #[(.int .i64 no), (.int .i64 gsn), v_l] 24 (0, 0))], R] := hX150.of_all1
                  refine s_op (o_assign (v := v146) rfl ?_)
                  refine s_nil ?_
                  refine b_norm ?_
                  refine t_norm (hK84 _ _ ?_)
                  refine wp_seq_k fun K153 hK153 => ?_
                  refine c_region ?_
                  refine s_op (o_fieldAddr (k := 0) (fun _ => by kernel_rfl) rfl ?_)
                  refine s_op (o_load1 (v := (.int .i64 no)) Tryd.underlying3 rfl rfl hH151 (seg_sub 5 rfl) (CellsAt.one rfl) ?_)
                  refine s_op (o_move (v := (.int .i64 g)) rfl ?_)
                  refine s_op (o_move (v := v146) rfl ?_)
                  obtain ⟨p154, c155, rfl⟩ := Sl.form (Own.sl ho148)
                  refine s_op (o_sight (v := (.agg #[(.int .i64 no), (.int .i64 g), (.slice p154 (insAt l ni149 ((key, v.2) : Cel)).length c155)])) (fun _ => by kernel_rfl) ?_)
                  refine s_eff (o_storeN (vs := [(.int .i64 no), (.int .i64 g), (.slice p154 (insAt l ni149 ((key, v.2) : Cel)).length c155)]) (c' := #[(.int .i64 no), (.int .i64 g), (.slice p154 (insAt l ni149 ((key, v.2) : Cel)).length c155)]) ti24 rfl rfl rfl rfl (by intro u hu; simp only [List.mem_cons, List.not_mem_nil, or_false] at hu; rcases hu with rfl | rfl | rfl <;> first | rfl | exact ho148.one) (by simp) (by kernel_rfl) (hH151.front 3 rfl) fun w156 hH157 => ?_)
                  refine s_op (o_assign (v := (.int .i64 0)) rfl ?_)
                  refine s_nil ?_
                  refine t_norm (hK153 _ _ ?_)
                  refine wp_ret ?_
                  refine c_retC2 Tryd.results16 rfl (run_loadVarN (cs := [(.int .i64 no), (.int .i64 g), (.slice p154 (insAt l ni149 ((key, v.2) : Cel)).length c155)]) Tryd.underlying24 rfl ti24 hH157 (seg_sub 0 rfl) (CellsAt.one rfl)) (x := (.int .i64 0)) rfl ?_
                  have hv1_ : v.1 = true := (by first | (simpa using h86))
                  have hE_ : setE no gsn l key v g = 0 := by rw [hok_]; simp [h116, h134, hv1_]; try omega
                  have q158 : (setNo no gsn l key v g) = no := by unfold setNo; rw [if_pos hE_]
                  have q159 : (setG no gsn l key v g) = g := by unfold setG; rw [if_pos hE_]
                  have q160 : (setL no gsn l key v g) = (insAt l ni149 ((key, v.2) : Cel)) := by unfold setL; rw [if_pos hE_]; unfold setC; simp [h116, hv1_, hni149_]
                  have q161 : (setE no gsn l key v g) = 0 := by exact hE_
                  have hH162 : Has E w156 [s147, R] := ((hH157.front 6 rfl).front 2 rfl).first 2 rfl
                  exact ⟨_, _, by rw [q158, q159]; rw [q161], (by rw [q160]; exact ho148), hH162⟩
end Go.Q
namespace Go.Q
theorem sortedC_eq {α : Type} {R : α → α → Prop} (irr : ∀ x, ¬ R x x) (tr : ∀ x y z, R x y → R y z → R x z) : ∀ {l1 l2 : List α}, l1.Pairwise R → l2.Pairwise R → (∀ x, x ∈ l1 ↔ x ∈ l2) → l1 = l2
  | [], [], _, _, _ => rfl
  | [], y :: t, _, _, h => by have := (h y).2 (List.mem_cons_self ..); cases this
  | x :: t, [], _, _, h => by have := (h x).1 (List.mem_cons_self ..); cases this
  | x :: t, y :: u, h1, h2, h => by
    have a1 := List.pairwise_cons.1 h1
    have a2 := List.pairwise_cons.1 h2
    have exy : x = y := by
      rcases List.mem_cons.1 ((h x).1 (List.mem_cons_self ..)) with e | e
      · exact e
      · rcases List.mem_cons.1 ((h y).2 (List.mem_cons_self ..)) with g | g
        · exact g.symm
        · exact absurd (tr _ _ _ (a1.1 y g) (a2.1 x e)) (irr x)
    subst exy
    congr 1
    refine sortedC_eq irr tr a1.2 a2.2 fun z => ⟨fun hz => ?_, fun hz => ?_⟩
    · rcases List.mem_cons.1 ((h z).1 (List.mem_cons_of_mem _ hz)) with e | e
      · exact absurd (a1.1 z hz) (by rw [e]; exact irr x)
      · exact e
    · rcases List.mem_cons.1 ((h z).2 (List.mem_cons_of_mem _ hz)) with e | e
      · exact absurd (a2.1 z hz) (by rw [e]; exact irr x)
      · exact e
theorem mem_putL {key s : Bs} {x : Cel} : ∀ {d : Bool} {l : List Cel}, x ∈ putL key s d l ↔ (x ∈ l ∧ x.1 ≠ key) ∨ (d = false ∧ x = (key, s))
  | d, [] => by cases d <;> simp [putL]
  | d, c :: t => by
    rw [putL, List.mem_append, List.mem_append, mem_putL (l := t), List.mem_cons]
    by_cases hk : c.1 = key
    · have hc : ¬ c.1 < key := by rw [hk]; exact bs_irr _
      have hck : ¬ key < key := bs_irr _
      rw [decide_eq_false hc]
      cases d
      · simp only [hk, hc, ne_eq, not_true_eq_false, if_false, not_false_eq_true, and_self, if_true, List.mem_singleton, Bool.not_false, Bool.or_true, Bool.true_eq_false, false_and, or_false, true_and, List.not_mem_nil, false_or]
        rw [if_pos hck, List.mem_singleton]
        constructor
        · rintro (h | h)
          · exact .inr h
          · exact .inl ⟨.inr h.1, h.2⟩
        · rintro (⟨h | h, g⟩ | h)
          · rw [h] at g; exact absurd hk g
          · exact .inr ⟨h, g⟩
          · exact .inl h
      · simp only [hk, ne_eq, not_true_eq_false, Bool.true_eq_false, false_and, if_false, List.not_mem_nil, Bool.true_or, or_false, false_or]
        constructor
        · intro h; exact ⟨.inr h.1, h.2⟩
        · rintro ⟨h | h, g⟩
          · rw [h] at g; exact absurd hk g
          · exact ⟨h, g⟩
    · by_cases hc : c.1 < key
      · rw [decide_eq_true hc]
        cases d <;> simp [hk, hc]
        · constructor
          · rintro (h | h | h)
            · subst h; exact .inl ⟨.inl rfl, hk⟩
            · exact .inl ⟨.inr h.1, h.2⟩
            · exact .inr h
          · rintro (⟨h | h, g⟩ | h)
            · exact .inl h
            · exact .inr (.inl ⟨h, g⟩)
            · exact .inr (.inr h)
        · constructor
          · rintro (h | h)
            · subst h; exact ⟨.inl rfl, hk⟩
            · exact ⟨.inr h.1, h.2⟩
          · rintro ⟨h | h, g⟩
            · exact .inl h
            · exact .inr ⟨h, g⟩
      · rw [decide_eq_false hc]
        cases d
        · simp only [hk, hc, ne_eq, not_false_eq_true, and_self, if_true, List.mem_singleton, Bool.not_false, Bool.or_true, Bool.true_eq_false, false_and, or_false, true_and]
          constructor
          · rintro (h | h | h)
            · exact .inr h
            · subst h; exact .inl ⟨.inl rfl, hk⟩
            · exact .inl ⟨.inr h.1, h.2⟩
          · rintro (⟨h | h, g⟩ | h)
            · exact .inr (.inl h)
            · exact .inr (.inr ⟨h, g⟩)
            · exact .inl h
        · simp only [hk, ne_eq, not_false_eq_true, Bool.true_eq_false, false_and, if_false, List.not_mem_nil, if_true, List.mem_singleton, Bool.true_or, or_false, false_or]
          constructor
          · rintro (h | h)
            · subst h; exact ⟨.inl rfl, hk⟩
            · exact ⟨.inr h.1, h.2⟩
          · rintro ⟨h | h, g⟩
            · exact .inl h
            · exact .inr ⟨h, g⟩
theorem rises_putL {key s : Bs} : ∀ {d : Bool} {l : List Cel}, Rises l → Rises (putL key s d l)
  | d, [], _ => by cases d <;> simp [putL, Rises]
  | d, c :: t, h => by
    obtain ⟨h1, h2⟩ := rises_cons h
    have ih : ∀ d, Rises (putL key s d t) := fun d => rises_putL h2
    have hck : ∀ d x, x ∈ putL key s d t → (d = true ∨ c.1 < key) → c.1 < x.1 := fun d x hx hd => by
      rcases mem_putL.1 hx with ⟨g, _⟩ | ⟨g, e⟩
      · exact h1 x g
      · rcases hd with hd | hd
        · rw [g] at hd; cases hd
        · rw [e]; exact hd
    rw [putL]
    by_cases hc : c.1 < key
    · have hk : c.1 ≠ key := fun e => by rw [e] at hc; exact bs_irr _ hc
      rw [if_neg (by simp [hc]), if_pos hk, List.nil_append]
      exact List.pairwise_cons.2 ⟨fun x hx => hck _ x hx (.inr hc), ih _⟩
    · rw [decide_eq_false hc, Bool.not_false, Bool.or_true]
      by_cases hk : c.1 = key
      · rw [if_neg (show ¬ c.1 ≠ key by simp [hk]), List.nil_append]
        cases d with
        | true => rw [if_neg (by simp), List.nil_append]; exact ih true
        | false =>
          rw [if_pos ⟨rfl, hc⟩]
          exact List.pairwise_cons.2 ⟨fun x hx => by have := hck true x hx (.inl rfl); rw [hk] at this; exact this, ih true⟩
      · have hgt : key < c.1 := by
          rcases List.le_iff_lt_or_eq.1 (List.not_lt.1 hc) with e | e
          · exact e
          · exact absurd e.symm hk
        rw [if_pos hk]
        have h3 : Rises ([c] ++ putL key s true t) := List.pairwise_cons.2 ⟨fun x hx => hck true x hx (.inl rfl), ih true⟩
        cases d with
        | true => rw [if_neg (by simp), List.nil_append]; exact h3
        | false =>
          rw [if_pos ⟨rfl, hc⟩]
          refine List.pairwise_cons.2 ⟨fun x hx => ?_, h3⟩
          · replace hx : x ∈ [c] ++ putL key s true t := hx
            rcases List.mem_append.1 hx with e | e
            · rw [List.mem_singleton.1 e]; exact hgt
            · exact bs_tr hgt (hck true x e (.inl rfl))
theorem mem_setC {l : List Cel} {key : Bs} {v : Bool × Bs} {x : Cel} (h : Rises l) (hh : v.1 = true ∨ hasC l key = true) : x ∈ setC l key v ↔ (x ∈ l ∧ x.1 ≠ key) ∨ (v.1 = true ∧ x = (key, v.2)) := by
  rw [← put_eq h hh, mem_putL]
  cases v.1 <;> simp
theorem rises_setC {l : List Cel} {key : Bs} {v : Bool × Bs} (h : Rises l) (hh : v.1 = true ∨ hasC l key = true) : Rises (setC l key v) := by
  rw [← put_eq h hh]; exact rises_putL h
theorem setC_len (l : List Cel) (key : Bs) (v : Bool × Bs) : (setC l key v).length ≤ l.length + (if v.1 = true ∧ hasC l key = false then 1 else 0) := by
  unfold setC insAt
  split
  · rename_i h; split
    · rename_i g; simp
    · rename_i g
      rw [if_pos ⟨h, by simpa using g⟩]
      simp only [List.length_append, List.length_take, List.length_drop, List.length_cons, List.length_nil]; omega
  · simp only [List.length_append, List.length_take, List.length_drop]; omega
theorem set_right {no gsn g : Int} {l : List Cel} {key : Bs} {v : Bool × Bs} (h : setE no gsn l key v g = 0) : pageR no g (setC l key v) = true ∧ Rises l ∧ (v.1 = true ∨ hasC l key = true) ∧ pageR no gsn l = true ∧ keyR key = true ∧ valR v = true ∧ gsn < g ∧ g ≤ 4611686018427387903 := by
  obtain ⟨h1, h2, h3, h4, h5⟩ := setE_one (by rw [h]; decide)
  have hok := setE_ok (g := g) h1 h2 h3 (by omega) (by omega)
  rw [h] at hok
  have hp := pageR_iff.1 h1
  have hc := cellsR_iff.1 hp.2
  have hv : v.1 = true ∨ hasC l key = true := by
    cases e1 : v.1 with
    | true => exact .inl rfl
    | false =>
      cases e2 : hasC l key with
      | true => exact .inr rfl
      | false => rw [if_pos ⟨e1, e2⟩] at hok; cases hok
  have hlen : (setC l key v).length ≤ 8 := by
    have := setC_len l key v
    split at this
    · rename_i g
      rw [if_neg (by rw [g.1]; simp)] at hok
      split at hok
      · cases hok
      · rename_i g2
        have : ¬ 8 ≤ l.length := fun e => g2 ⟨g.1, g.2, e⟩
        omega
    · omega
  refine ⟨pageR_iff.2 ⟨by omega, cellsR_iff.2 ⟨fun c hm => ?_, rises_setC hc.2.1 hv, hlen⟩⟩, hc.2.1, hv, h1, h2, h3, h4, h5⟩
  rcases (mem_setC hc.2.1 hv).1 hm with ⟨g1, _⟩ | ⟨g1, g2⟩
  · exact hc.1 c g1
  · rw [g2]; unfold celOk
    rw [h2, show ((true, v.2) : Bool × Bs) = v by rw [← g1]]; exact h3
theorem getC_mem {l : List Cel} {key : Bs} : (getC l key).1 = true → (key, (getC l key).2) ∈ l := by
  induction l with
  | nil => intro h; cases h
  | cons c t ih =>
    rw [getC]
    split
    · rename_i h; intro _; simp only; rw [← h]; exact List.mem_cons_self ..
    · intro h; exact List.mem_cons_of_mem _ (ih h)
theorem getC_of {l : List Cel} {key s : Bs} (h : Rises l) (hm : (key, s) ∈ l) : getC l key = (true, s) := by
  induction l with
  | nil => cases hm
  | cons c t ih =>
    obtain ⟨h1, h2⟩ := rises_cons h
    rw [getC]
    rcases List.mem_cons.1 hm with e | e
    · rw [← e, if_pos rfl]
    · rw [if_neg (fun g => by have := h1 _ e; rw [g] at this; exact bs_irr _ this)]
      exact ih h2 e
theorem getC_none {l : List Cel} {key : Bs} (h : ∀ x ∈ l, x.1 ≠ key) : getC l key = (false, []) := by
  induction l with
  | nil => rfl
  | cons c t ih => rw [getC, if_neg (h c (List.mem_cons_self ..)), ih fun x hx => h x (List.mem_cons_of_mem c hx)]
theorem valR_norm {v : Bool × Bs} (h : valR v = true) (h1 : v.1 = false) : v = (false, []) := by
  unfold valR at h
  rw [h1] at h
  simp only [Bool.false_or, Bool.and_eq_true, decide_eq_true_eq] at h
  exact Prod.ext h1 h.2
theorem getC_set {no gsn g : Int} {l : List Cel} {key : Bs} {v : Bool × Bs} (h : setE no gsn l key v g = 0) : getC (setC l key v) key = v := by
  obtain ⟨_, h2, h3, _, _, h6, _⟩ := set_right h
  have hr := rises_setC h2 h3
  cases e : v.1 with
  | true =>
    rw [getC_of hr ((mem_setC h2 h3).2 (.inr ⟨e, rfl⟩)), ← e]
  | false =>
    rw [valR_norm h6 e, getC_none]
    intro x hx
    rw [← valR_norm h6 e] at hx
    rcases (mem_setC h2 h3).1 hx with g | g
    · exact g.2
    · rw [e] at g; cases g.1
theorem rises_eq {a b : List Cel} (ha : Rises a) (hb : Rises b) (h : ∀ x, x ∈ a ↔ x ∈ b) : a = b :=
  sortedC_eq (R := fun x y : Cel => x.1 < y.1) (fun x => bs_irr _) (fun x y z h1 h2 => bs_tr h1 h2) ha hb h
theorem hasC_iff {l : List Cel} {key : Bs} : hasC l key = true ↔ ∃ c ∈ l, c.1 = key := by
  unfold hasC; rw [List.any_eq_true]; simp only [decide_eq_true_iff]
/-- a key that is set, and set as it was -/
theorem set_back {no gsn : Int} {l : List Cel} {key : Bs} {v : Bool × Bs} (h : setE no gsn l key v (gsn + 1) = 0) (hg : gsn ≤ 2305843009213693952) :
    setE no (gsn + 1) (setC l key v) key (getC l key) (gsn + 2) = 0 ∧ setC (setC l key v) key (getC l key) = l ∧ (v.1 = true ∨ (getC l key).1 = true) := by
  obtain ⟨h1, h2, h3, h4, h5, h6, h7, h8⟩ := set_right h
  have hr := rises_setC h2 h3
  have hc := cellsR_iff.1 (pageR_iff.1 h4).2
  have hgh := getC_has l key
  have hw : valR (getC l key) = true := by
    cases e : (getC l key).1 with
    | true =>
      have hm := getC_mem e
      have := hc.1 _ hm
      unfold celOk at this
      rw [Bool.and_eq_true] at this
      rw [show getC l key = (true, (getC l key).2) by rw [← e]]; exact this.2
    | false =>
      have : getC l key = (false, []) := by
        refine getC_none fun x hx e2 => ?_
        rw [hgh] at e
        rw [hasC_iff.2 ⟨x, hx, e2⟩] at e; cases e
      rw [this]; decide
  have hw2 : (getC l key).1 = true ∨ hasC (setC l key v) key = true := by
    rcases h3 with e | e
    · exact .inr (hasC_iff.2 ⟨(key, v.2), (mem_setC h2 (.inl e)).2 (.inr ⟨e, rfl⟩), rfl⟩)
    · exact .inl (by rw [hgh]; exact e)
  have hback : setC (setC l key v) key (getC l key) = l := by
    refine rises_eq (rises_setC hr hw2) h2 fun x => ?_
    rw [mem_setC hr hw2, mem_setC h2 h3]
    constructor
    · rintro (⟨(⟨g1, _⟩ | ⟨g1, g2⟩), g3⟩ | ⟨g1, g2⟩)
      · exact g1
      · exact absurd (by rw [g2]) g3
      · rw [g2]; exact getC_mem g1
    · intro hx
      by_cases e : x.1 = key
      · have hx2 : (key, x.2) ∈ l := by rw [← e]; exact hx
        have := getC_of h2 hx2
        exact .inr ⟨by rw [this], by rw [this, ← e]⟩
      · exact .inl ⟨.inl ⟨hx, e⟩, e⟩
  refine ⟨?_, hback, by rw [hgh]; exact h3⟩
  rw [setE_ok h1 h5 hw (by omega) (by omega)]
  have hl8 := (cellsR_iff.1 (pageR_iff.1 h1).2).2.2
  rw [if_neg, if_neg]
  · rintro ⟨g1, g2, g3⟩
    have hv : v.1 = false := by
      cases e : v.1 with
      | false => rfl
      | true => rw [hasC_iff.2 ⟨(key, v.2), (mem_setC h2 h3).2 (.inr ⟨e, rfl⟩), rfl⟩] at g2; cases g2
    have hh : hasC l key = true := by rw [← hgh]; exact g1
    have hpl := hasC_at h2 hh
    have : (setC l key v).length = l.length - 1 := by
      unfold setC; rw [if_neg (by rw [hv]; simp)]
      simp only [List.length_append, List.length_take, List.length_drop]
      have := posC_le l key
      omega
    have := hc.2.2
    omega
  · rintro ⟨g1, g2⟩
    rcases hw2 with e | e
    · rw [g1] at e; cases e
    · rw [g2] at e; cases e
theorem setL_le (no gsn : Int) (l : List Cel) (key : Bs) (v : Bool × Bs) (g : Int) : (setL no gsn l key v g).length ≤ l.length + 1 := by
  unfold setL
  split
  · have := setC_len l key v
    split at this <;> omega
  · simp
end Go.Q
namespace Go.Q
theorem aw11_e : setE 3 0 ([] : List Cel) [97] (true, [120]) 5 = 0 := by decide +kernel
theorem aw11_no : setNo 3 0 ([] : List Cel) [97] (true, [120]) 5 = 3 := by decide +kernel
theorem aw11_g : setG 3 0 ([] : List Cel) [97] (true, [120]) 5 = 5 := by decide +kernel
theorem aw11_l : setL 3 0 ([] : List Cel) [97] (true, [120]) 5 = [([97], [120])] := by decide +kernel
theorem aw11_r : pageR 3 5 [([97], [120])] = true := by decide +kernel
theorem aw11_v : getC [([97], [120])] ([97] : Bs) = (true, [120]) := by decide +kernel
theorem setNo_ok {no gsn g : Int} {l : List Cel} {key : Bs} {v : Bool × Bs} (h : setE no gsn l key v g = 0) : setNo no gsn l key v g = no := if_pos h
theorem setNo_no {no gsn g : Int} {l : List Cel} {key : Bs} {v : Bool × Bs} (h : setE no gsn l key v g ≠ 0) : setNo no gsn l key v g = 0 := if_neg h
theorem setG_ok {no gsn g : Int} {l : List Cel} {key : Bs} {v : Bool × Bs} (h : setE no gsn l key v g = 0) : setG no gsn l key v g = g := if_pos h
theorem setG_no {no gsn g : Int} {l : List Cel} {key : Bs} {v : Bool × Bs} (h : setE no gsn l key v g ≠ 0) : setG no gsn l key v g = 0 := if_neg h
theorem setL_ok {no gsn g : Int} {l : List Cel} {key : Bs} {v : Bool × Bs} (h : setE no gsn l key v g = 0) : setL no gsn l key v g = setC l key v := if_pos h
theorem setL_no {no gsn g : Int} {l : List Cel} {key : Bs} {v : Bool × Bs} (h : setE no gsn l key v g ≠ 0) : setL no gsn l key v g = [] := if_neg h
end Go.Q
namespace Go.Q
open Go.Proofs
set_option linter.unusedVariables false
set_option maxRecDepth 100000
attribute [local irreducible] wpList OK Code.wp
set_option maxHeartbeats 4000000 in
theorem awake11_c {E w : World} {R : List Hp}   (hH : Has E w [R]) (hg : CellsAt R 0 0 nibV) :
    Calls Tryd.prog 9 #[] w fun e w' => e = .returned (.bool true) ∧ Has E w' [R] := by
  refine c_enter (args := []) Tryd.func9 rfl Tryd.ntmps9 (by simp) ?_
  refine wp_seq_k fun K1 hK1 => ?_
  refine c_region ?_
  refine s_op (o_assign (v := (.bool false)) rfl ?_)
  refine s_nil ?_
  refine t_norm (hK1 _ _ ?_)
  refine wp_seq_k fun K2 hK2 => ?_
  refine c_region ?_
  refine s_op (o_sight (v := (.agg #[(.int .i64 3), (.int .i64 0), (.slice none 0 0)])) (fun _ => by kernel_rfl) ?_)
  refine s_op (o_sight (v := (.agg #[(.bool true), (S [120])])) (fun _ => by kernel_rfl) ?_)
  refine s_op (o_callf (vs := #[(.agg #[(.int .i64 3), (.int .i64 0), (.slice none 0 0)]), (S [97]), (.agg #[(.bool true), (S [120])]), (.int .i64 5)]) ca16 rfl (args4 rfl rfl rfl rfl) (pset_c (no := 3) (gsn := 0) (l := ([] : List Cel)) (key := [97]) (v := (true, [120])) (g := 5) hH.all (sl_nil 2) (by first | omega | (simp only []; omega) | (simp; done) | (simp; omega))) ?_)
  rintro _ w8 ⟨v3, s4, rfl, ho5, hX6⟩
  refine ⟨_, rfl, ?_⟩
  have hH7 : Has E w8 [s4, R] := hX6.of_all1
  refine s_op (o_move (v := (.tuple #[(.agg #[(.int .i64 (setNo 3 0 ([] : List Cel) [97] (true, [120]) 5)), (.int .i64 (setG 3 0 ([] : List Cel) [97] (true, [120]) 5)), v3]), (.int .i64 (setE 3 0 ([] : List Cel) [97] (true, [120]) 5))])) rfl ?_)
  refine s_op (o_extract (v := (.agg #[(.int .i64 (setNo 3 0 ([] : List Cel) [97] (true, [120]) 5)), (.int .i64 (setG 3 0 ([] : List Cel) [97] (true, [120]) 5)), v3])) rfl rfl ?_)
  refine s_op (o_extract (v := (.int .i64 (setE 3 0 ([] : List Cel) [97] (true, [120]) 5))) rfl rfl ?_)
  refine s_op (o_alloc (cs := #[(.int .i64 0), (.int .i64 0), (.slice none 0 0)]) ti24 rfl hH7 fun b9 w10 hH11 => ?_)
  refine s_eff (o_storeN (vs := [(.int .i64 (setNo 3 0 ([] : List Cel) [97] (true, [120]) 5)), (.int .i64 (setG 3 0 ([] : List Cel) [97] (true, [120]) 5)), v3]) (c' := #[(.int .i64 (setNo 3 0 ([] : List Cel) [97] (true, [120]) 5)), (.int .i64 (setG 3 0 ([] : List Cel) [97] (true, [120]) 5)), v3]) ti24 rfl rfl rfl rfl (by intro u hu; simp only [List.mem_cons, List.not_mem_nil, or_false] at hu; rcases hu with rfl | rfl | rfl <;> first | rfl | exact ho5.one) (by simp) (by kernel_rfl) (hH11.front 0 rfl) fun w12 hH13 => ?_)
  refine s_op (o_assign (v := (.int .i64 (setE 3 0 ([] : List Cel) [97] (true, [120]) 5))) rfl ?_)
  refine s_nil ?_
  refine t_norm (hK2 _ _ ?_)
  refine wp_seq_k fun K14 hK14 => ?_
  refine c_region ?_
  refine s_op (o_loadN (cs := [(.int .i64 (setNo 3 0 ([] : List Cel) [97] (true, [120]) 5)), (.int .i64 (setG 3 0 ([] : List Cel) [97] (true, [120]) 5)), v3]) Tryd.underlying24 rfl ti24 rfl hH13 (seg_sub 0 rfl) (CellsAt.one rfl) ?_)
  refine s_op (o_callf (vs := #[(.agg #[(.int .i64 (setNo 3 0 ([] : List Cel) [97] (true, [120]) 5)), (.int .i64 (setG 3 0 ([] : List Cel) [97] (true, [120]) 5)), v3])]) ca21 rfl (args1 rfl) (plaid_c (no := (setNo 3 0 ([] : List Cel) [97] (true, [120]) 5)) (gsn := (setG 3 0 ([] : List Cel) [97] (true, [120]) 5)) (l := (setL 3 0 ([] : List Cel) [97] (true, [120]) 5)) hH13.all (ho5.sl.mono (seg_sub 1 rfl)) (hg.mono (seg_sub 2 rfl))) ?_)
  rintro _ w17 ⟨rfl, hX15⟩
  refine ⟨_, rfl, ?_⟩
  have hH16 := hX15.of_all
  have hll_ := laidP_le (setNo 3 0 ([] : List Cel) [97] (true, [120]) 5) (setG 3 0 ([] : List Cel) [97] (true, [120]) 5) (setL 3 0 ([] : List Cel) [97] (true, [120]) 5)
  refine s_op (o_callf (vs := #[(S (laidP (setNo 3 0 ([] : List Cel) [97] (true, [120]) 5) (setG 3 0 ([] : List Cel) [97] (true, [120]) 5) (setL 3 0 ([] : List Cel) [97] (true, [120]) 5)))]) ca19 rfl (args1 rfl) (pread_c (s := (laidP (setNo 3 0 ([] : List Cel) [97] (true, [120]) 5) (setG 3 0 ([] : List Cel) [97] (true, [120]) 5) (setL 3 0 ([] : List Cel) [97] (true, [120]) 5))) hH16.all (hg.mono (seg_sub 2 rfl))) ?_)
  rintro _ w23 ⟨v18, s19, rfl, ho20, hX21⟩
  refine ⟨_, rfl, ?_⟩
  have hH22 : Has E w23 [s19, [Hp.one b9 (.cells #[(.int .i64 (setNo 3 0 ([] : List Cel) [97] (true, [120]) 5)), (.int .i64 (setG 3 0 ([] : List Cel) [97] (true, [120]) 5)), v3] 24 (0, 0))], s4, R] := hX21.of_all1
  refine s_op (o_move (v := (.tuple #[(.agg #[(.int .i64 ((readP (laidP (setNo 3 0 ([] : List Cel) [97] (true, [120]) 5) (setG 3 0 ([] : List Cel) [97] (true, [120]) 5) (setL 3 0 ([] : List Cel) [97] (true, [120]) 5))).2.1)), (.int .i64 ((readP (laidP (setNo 3 0 ([] : List Cel) [97] (true, [120]) 5) (setG 3 0 ([] : List Cel) [97] (true, [120]) 5) (setL 3 0 ([] : List Cel) [97] (true, [120]) 5))).2.2.1)), v18]), (.bool ((readP (laidP (setNo 3 0 ([] : List Cel) [97] (true, [120]) 5) (setG 3 0 ([] : List Cel) [97] (true, [120]) 5) (setL 3 0 ([] : List Cel) [97] (true, [120]) 5))).1))])) rfl ?_)
  refine s_op (o_extract (v := (.agg #[(.int .i64 ((readP (laidP (setNo 3 0 ([] : List Cel) [97] (true, [120]) 5) (setG 3 0 ([] : List Cel) [97] (true, [120]) 5) (setL 3 0 ([] : List Cel) [97] (true, [120]) 5))).2.1)), (.int .i64 ((readP (laidP (setNo 3 0 ([] : List Cel) [97] (true, [120]) 5) (setG 3 0 ([] : List Cel) [97] (true, [120]) 5) (setL 3 0 ([] : List Cel) [97] (true, [120]) 5))).2.2.1)), v18])) rfl rfl ?_)
  refine s_op (o_extract (v := (.bool ((readP (laidP (setNo 3 0 ([] : List Cel) [97] (true, [120]) 5) (setG 3 0 ([] : List Cel) [97] (true, [120]) 5) (setL 3 0 ([] : List Cel) [97] (true, [120]) 5))).1))) rfl rfl ?_)
  refine s_op (o_alloc (cs := #[(.int .i64 0), (.int .i64 0), (.slice none 0 0)]) ti24 rfl hH22 fun b24 w25 hH26 => ?_)
  refine s_eff (o_storeN (vs := [(.int .i64 ((readP (laidP (setNo 3 0 ([] : List Cel) [97] (true, [120]) 5) (setG 3 0 ([] : List Cel) [97] (true, [120]) 5) (setL 3 0 ([] : List Cel) [97] (true, [120]) 5))).2.1)), (.int .i64 ((readP (laidP (setNo 3 0 ([] : List Cel) [97] (true, [120]) 5) (setG 3 0 ([] : List Cel) [97] (true, [120]) 5) (setL 3 0 ([] : List Cel) [97] (true, [120]) 5))).2.2.1)), v18]) (c' := #[(.int .i64 ((readP (laidP (setNo 3 0 ([] : List Cel) [97] (true, [120]) 5) (setG 3 0 ([] : List Cel) [97] (true, [120]) 5) (setL 3 0 ([] : List Cel) [97] (true, [120]) 5))).2.1)), (.int .i64 ((readP (laidP (setNo 3 0 ([] : List Cel) [97] (true, [120]) 5) (setG 3 0 ([] : List Cel) [97] (true, [120]) 5) (setL 3 0 ([] : List Cel) [97] (true, [120]) 5))).2.2.1)), v18]) ti24 rfl rfl rfl rfl (by intro u hu; simp only [List.mem_cons, List.not_mem_nil, or_false] at hu; rcases hu with rfl | rfl | rfl <;> first | rfl | exact ho20.one) (by simp) (by kernel_rfl) (hH26.front 0 rfl) fun w27 hH28 => ?_)
  refine s_op (o_assign (v := (.bool ((readP (laidP (setNo 3 0 ([] : List Cel) [97] (true, [120]) 5) (setG 3 0 ([] : List Cel) [97] (true, [120]) 5) (setL 3 0 ([] : List Cel) [97] (true, [120]) 5))).1))) rfl ?_)
  refine s_nil ?_
  refine t_norm (hK14 _ _ ?_)
  refine wp_seq_k fun K29 hK29 => ?_
  refine c_region ?_
  refine s_op (o_move (v := (.int .i64 (setE 3 0 ([] : List Cel) [97] (true, [120]) 5))) rfl ?_)
  refine s_op (o_eql (a := (setE 3 0 ([] : List Cel) [97] (true, [120]) 5)) (b := 0) rfl rfl ?_)
  refine s_op (o_move (v := (.bool (decide ((setE 3 0 ([] : List Cel) [97] (true, [120]) 5) = 0)))) rfl ?_)
  by_cases h30 : (setE 3 0 ([] : List Cel) [97] (true, [120]) 5) = 0
  · -- (setE 3 0 ([] : List Cel) [97] (true, [120]) 5) = 0
    refine s_on 19 rfl (congrArg Value.bool (decide_eq_true h30)) (o_fieldAddr (k := 1) (fun _ => by kernel_rfl) rfl ?_)
    refine s_on 19 rfl (congrArg Value.bool (decide_eq_true h30)) (o_load1 (v := (.int .i64 (setG 3 0 ([] : List Cel) [97] (true, [120]) 5))) Tryd.underlying3 rfl rfl hH28 (seg_sub 2 rfl) (CellsAt.one rfl) ?_)
    refine s_on 19 rfl (congrArg Value.bool (decide_eq_true h30)) (o_eql (a := (setG 3 0 ([] : List Cel) [97] (true, [120]) 5)) (b := 5) rfl rfl ?_)
    refine s_op (o_pick_t (u := (.bool (decide ((setG 3 0 ([] : List Cel) [97] (true, [120]) 5) = 5)))) ((rfl : _ = _).trans (congrArg Value.bool (decide_eq_true h30))) rfl ?_)
    refine s_op (o_move (v := (.bool (decide ((setG 3 0 ([] : List Cel) [97] (true, [120]) 5) = 5)))) rfl ?_)
    by_cases h31 : (setG 3 0 ([] : List Cel) [97] (true, [120]) 5) = 5
    · -- (setG 3 0 ([] : List Cel) [97] (true, [120]) 5) = 5
      refine s_on 24 rfl (congrArg Value.bool (decide_eq_true h31)) (o_fieldAddr (k := 2) (fun _ => by kernel_rfl) rfl ?_)
      refine s_on 24 rfl (congrArg Value.bool (decide_eq_true h31)) (o_load1 (v := v3) Tryd.underlying22 rfl rfl hH28 (seg_sub 2 rfl) (CellsAt.one rfl) ?_)
      refine s_on 24 rfl (congrArg Value.bool (decide_eq_true h31)) (o_lenS Tryd.underlying22 rfl ho5.sl ?_)
      refine s_on 24 rfl (congrArg Value.bool (decide_eq_true h31)) (o_eql (a := (((setL 3 0 ([] : List Cel) [97] (true, [120]) 5).length : Nat) : Int)) (b := 1) rfl rfl ?_)
      refine s_op (o_pick_t (u := (.bool (decide ((((setL 3 0 ([] : List Cel) [97] (true, [120]) 5).length : Nat) : Int) = 1)))) ((rfl : _ = _).trans (congrArg Value.bool (decide_eq_true h31))) rfl ?_)
      refine s_op (o_move (v := (.bool (decide ((((setL 3 0 ([] : List Cel) [97] (true, [120]) 5).length : Nat) : Int) = 1)))) rfl ?_)
      by_cases h32 : (((setL 3 0 ([] : List Cel) [97] (true, [120]) 5).length : Nat) : Int) = 1
      · -- (((setL 3 0 ([] : List Cel) [97] (true, [120]) 5).length : Nat) : Int) = 1
        refine s_on 30 rfl (congrArg Value.bool (decide_eq_true h32)) (o_move (v := (.bool ((readP (laidP (setNo 3 0 ([] : List Cel) [97] (true, [120]) 5) (setG 3 0 ([] : List Cel) [97] (true, [120]) 5) (setL 3 0 ([] : List Cel) [97] (true, [120]) 5))).1))) rfl ?_)
        refine s_op (o_pick_t (u := (.bool ((readP (laidP (setNo 3 0 ([] : List Cel) [97] (true, [120]) 5) (setG 3 0 ([] : List Cel) [97] (true, [120]) 5) (setL 3 0 ([] : List Cel) [97] (true, [120]) 5))).1))) ((rfl : _ = _).trans (congrArg Value.bool (decide_eq_true h32))) rfl ?_)
        refine s_op (o_move (v := (.bool ((readP (laidP (setNo 3 0 ([] : List Cel) [97] (true, [120]) 5) (setG 3 0 ([] : List Cel) [97] (true, [120]) 5) (setL 3 0 ([] : List Cel) [97] (true, [120]) 5))).1))) rfl ?_)
        rcases Bool.eq_false_or_eq_true ((readP (laidP (setNo 3 0 ([] : List Cel) [97] (true, [120]) 5) (setG 3 0 ([] : List Cel) [97] (true, [120]) 5) (setL 3 0 ([] : List Cel) [97] (true, [120]) 5))).1) with h33 | h33
        · -- (readP (laidP (setNo 3 0 ([] : List Cel) [97] (true, [120]) 5) (setG 3 0 ([] : List Cel) [97] (true, [120]) 5) (setL 3 0 ([] : List Cel) [97] (true, [120]) 5))).1
          refine s_on 33 rfl (congrArg Value.bool h33) (o_loadN (cs := [(.int .i64 (setNo 3 0 ([] : List Cel) [97] (true, [120]) 5)), (.int .i64 (setG 3 0 ([] : List Cel) [97] (true, [120]) 5)), v3]) Tryd.underlying24 rfl ti24 rfl hH28 (seg_sub 2 rfl) (CellsAt.one rfl) ?_)
          refine s_on 33 rfl (congrArg Value.bool h33) (o_loadN (cs := [(.int .i64 ((readP (laidP (setNo 3 0 ([] : List Cel) [97] (true, [120]) 5) (setG 3 0 ([] : List Cel) [97] (true, [120]) 5) (setL 3 0 ([] : List Cel) [97] (true, [120]) 5))).2.1)), (.int .i64 ((readP (laidP (setNo 3 0 ([] : List Cel) [97] (true, [120]) 5) (setG 3 0 ([] : List Cel) [97] (true, [120]) 5) (setL 3 0 ([] : List Cel) [97] (true, [120]) 5))).2.2.1)), v18]) Tryd.underlying24 rfl ti24 rfl hH28 (seg_sub 0 rfl) (CellsAt.one rfl) ?_)
          refine s_on 33 rfl (congrArg Value.bool h33) (o_callf (vs := #[(.agg #[(.int .i64 (setNo 3 0 ([] : List Cel) [97] (true, [120]) 5)), (.int .i64 (setG 3 0 ([] : List Cel) [97] (true, [120]) 5)), v3]), (.agg #[(.int .i64 ((readP (laidP (setNo 3 0 ([] : List Cel) [97] (true, [120]) 5) (setG 3 0 ([] : List Cel) [97] (true, [120]) 5) (setL 3 0 ([] : List Cel) [97] (true, [120]) 5))).2.1)), (.int .i64 ((readP (laidP (setNo 3 0 ([] : List Cel) [97] (true, [120]) 5) (setG 3 0 ([] : List Cel) [97] (true, [120]) 5) (setL 3 0 ([] : List Cel) [97] (true, [120]) 5))).2.2.1)), v18])]) ca12 rfl (args2 rfl rfl) (psame_c (noa := (setNo 3 0 ([] : List Cel) [97] (true, [120]) 5)) (gsna := (setG 3 0 ([] : List Cel) [97] (true, [120]) 5)) (la := (setL 3 0 ([] : List Cel) [97] (true, [120]) 5)) (nob := (readP (laidP (setNo 3 0 ([] : List Cel) [97] (true, [120]) 5) (setG 3 0 ([] : List Cel) [97] (true, [120]) 5) (setL 3 0 ([] : List Cel) [97] (true, [120]) 5))).2.1) (gsnb := (readP (laidP (setNo 3 0 ([] : List Cel) [97] (true, [120]) 5) (setG 3 0 ([] : List Cel) [97] (true, [120]) 5) (setL 3 0 ([] : List Cel) [97] (true, [120]) 5))).2.2.1) (lb := ((readP (laidP (setNo 3 0 ([] : List Cel) [97] (true, [120]) 5) (setG 3 0 ([] : List Cel) [97] (true, [120]) 5) (setL 3 0 ([] : List Cel) [97] (true, [120]) 5))).2.2.2)) hH28.all (ho5.sl.mono (seg_sub 3 rfl)) (ho20.sl.mono (seg_sub 1 rfl))) ?_)
          rintro _ w36 ⟨rfl, hX34⟩
          refine ⟨_, rfl, ?_⟩
          have hH35 := hX34.of_all
          refine s_op (o_pick_t (u := (.bool (decide ((setNo 3 0 ([] : List Cel) [97] (true, [120]) 5) = ((readP (laidP (setNo 3 0 ([] : List Cel) [97] (true, [120]) 5) (setG 3 0 ([] : List Cel) [97] (true, [120]) 5) (setL 3 0 ([] : List Cel) [97] (true, [120]) 5))).2.1) ∧ (setG 3 0 ([] : List Cel) [97] (true, [120]) 5) = ((readP (laidP (setNo 3 0 ([] : List Cel) [97] (true, [120]) 5) (setG 3 0 ([] : List Cel) [97] (true, [120]) 5) (setL 3 0 ([] : List Cel) [97] (true, [120]) 5))).2.2.1) ∧ (setL 3 0 ([] : List Cel) [97] (true, [120]) 5) = ((readP (laidP (setNo 3 0 ([] : List Cel) [97] (true, [120]) 5) (setG 3 0 ([] : List Cel) [97] (true, [120]) 5) (setL 3 0 ([] : List Cel) [97] (true, [120]) 5))).2.2.2))))) ((rfl : _ = _).trans (congrArg Value.bool h33)) rfl ?_)
          refine s_op (o_move (v := (.bool (decide ((setNo 3 0 ([] : List Cel) [97] (true, [120]) 5) = ((readP (laidP (setNo 3 0 ([] : List Cel) [97] (true, [120]) 5) (setG 3 0 ([] : List Cel) [97] (true, [120]) 5) (setL 3 0 ([] : List Cel) [97] (true, [120]) 5))).2.1) ∧ (setG 3 0 ([] : List Cel) [97] (true, [120]) 5) = ((readP (laidP (setNo 3 0 ([] : List Cel) [97] (true, [120]) 5) (setG 3 0 ([] : List Cel) [97] (true, [120]) 5) (setL 3 0 ([] : List Cel) [97] (true, [120]) 5))).2.2.1) ∧ (setL 3 0 ([] : List Cel) [97] (true, [120]) 5) = ((readP (laidP (setNo 3 0 ([] : List Cel) [97] (true, [120]) 5) (setG 3 0 ([] : List Cel) [97] (true, [120]) 5) (setL 3 0 ([] : List Cel) [97] (true, [120]) 5))).2.2.2))))) rfl ?_)
          rcases Bool.eq_false_or_eq_true (decide ((setNo 3 0 ([] : List Cel) [97] (true, [120]) 5) = ((readP (laidP (setNo 3 0 ([] : List Cel) [97] (true, [120]) 5) (setG 3 0 ([] : List Cel) [97] (true, [120]) 5) (setL 3 0 ([] : List Cel) [97] (true, [120]) 5))).2.1) ∧ (setG 3 0 ([] : List Cel) [97] (true, [120]) 5) = ((readP (laidP (setNo 3 0 ([] : List Cel) [97] (true, [120]) 5) (setG 3 0 ([] : List Cel) [97] (true, [120]) 5) (setL 3 0 ([] : List Cel) [97] (true, [120]) 5))).2.2.1) ∧ (setL 3 0 ([] : List Cel) [97] (true, [120]) 5) = ((readP (laidP (setNo 3 0 ([] : List Cel) [97] (true, [120]) 5) (setG 3 0 ([] : List Cel) [97] (true, [120]) 5) (setL 3 0 ([] : List Cel) [97] (true, [120]) 5))).2.2.2))) with h37 | h37
          · -- (decide ((setNo 3 0 ([] : List Cel) [97] (true, [120]) 5) = ((readP (laidP (setNo 3 0 ([] : List Cel) [97] (true, [120]) 5) (setG 3 0 ([] : List Cel) [97] (true, [120]) 5) (setL 3 0 ([] : List Cel) [97] (true, [120]) 5))).2.1) ∧ (setG 3 0 ([] : List Cel) [97] (true, [120]) 5) = ((readP (laidP (setNo 3 0 ([] : List Cel) [97] (true, [120]) 5) (setG 3 0 ([] : List Cel) [97] (true, [120]) 5) (setL 3 0 ([] : List Cel) [97] (true, [120]) 5))).2.2.1) ∧ (setL 3 0 ([] : List Cel) [97] (true, [120]) 5) = ((readP (laidP (setNo 3 0 ([] : List Cel) [97] (true, [120]) 5) (setG 3 0 ([] : List Cel) [97] (true, [120]) 5) (setL 3 0 ([] : List Cel) [97] (true, [120]) 5))).2.2.2)))
            refine s_on 38 rfl (congrArg Value.bool h37) (o_loadN (cs := [(.int .i64 (setNo 3 0 ([] : List Cel) [97] (true, [120]) 5)), (.int .i64 (setG 3 0 ([] : List Cel) [97] (true, [120]) 5)), v3]) Tryd.underlying24 rfl ti24 rfl hH35 (seg_sub 2 rfl) (CellsAt.one rfl) ?_)
            refine s_on 38 rfl (congrArg Value.bool h37) (o_callf (vs := #[(.agg #[(.int .i64 (setNo 3 0 ([] : List Cel) [97] (true, [120]) 5)), (.int .i64 (setG 3 0 ([] : List Cel) [97] (true, [120]) 5)), v3]), (S [97])]) ca14 rfl (args2 rfl rfl) (pget_c (no := (setNo 3 0 ([] : List Cel) [97] (true, [120]) 5)) (gsn := (setG 3 0 ([] : List Cel) [97] (true, [120]) 5)) (l := (setL 3 0 ([] : List Cel) [97] (true, [120]) 5)) (key := [97]) hH35.all (ho5.sl.mono (seg_sub 3 rfl))) ?_)
            rintro _ w40 ⟨rfl, hX38⟩
            refine ⟨_, rfl, ?_⟩
            have hH39 := hX38.of_all
            refine s_on 38 rfl (congrArg Value.bool h37) (o_sight (v := (.agg #[(.bool true), (S [120])])) (fun _ => by kernel_rfl) ?_)
            refine s_on 38 rfl (congrArg Value.bool h37) (o_eql29 ((getC (setL 3 0 ([] : List Cel) [97] (true, [120]) 5) [97]).1) ((getC (setL 3 0 ([] : List Cel) [97] (true, [120]) 5) [97]).2) true [120] rfl rfl ?_)
            refine s_op (o_pick_t (u := (.bool (eqv29 ((getC (setL 3 0 ([] : List Cel) [97] (true, [120]) 5) [97]).1) ((getC (setL 3 0 ([] : List Cel) [97] (true, [120]) 5) [97]).2) true [120]))) ((rfl : _ = _).trans (congrArg Value.bool h37)) rfl ?_)
            refine s_op (o_assign (v := (.bool (eqv29 ((getC (setL 3 0 ([] : List Cel) [97] (true, [120]) 5) [97]).1) ((getC (setL 3 0 ([] : List Cel) [97] (true, [120]) 5) [97]).2) true [120]))) rfl ?_)
            refine s_nil ?_
            refine t_norm (hK29 _ _ ?_)
            refine wp_ret ?_
            refine c_ret1 Tryd.results9  (v := (.bool (eqv29 ((getC (setL 3 0 ([] : List Cel) [97] (true, [120]) 5) [97]).1) ((getC (setL 3 0 ([] : List Cel) [97] (true, [120]) 5) [97]).2) true [120]))) rfl ?_
            have hH41 : Has E w40 [R] := (hH39.front 4 rfl).first 1 rfl
            exact ⟨by rw [show eqv29 ((getC (setL 3 0 ([] : List Cel) [97] (true, [120]) 5) [97]).1) ((getC (setL 3 0 ([] : List Cel) [97] (true, [120]) 5) [97]).2) true [120] = true by simp only [aw11_e, aw11_no, aw11_g, aw11_l, aw11_v, readP_laid aw11_r] <;> first | done | decide | (simp; done) | ((try simp); decide)], hH41⟩
          · -- not: (decide ((setNo 3 0 ([] : List Cel) [97] (true, [120]) 5) = ((readP (laidP (setNo 3 0 ([] : List Cel) [97] (true, [120]) 5) (setG 3 0 ([] : List Cel) [97] (true, [120]) 5) (setL 3 0 ([] : List Cel) [97] (true, [120]) 5))).2.1) ∧ (setG 3 0 ([] : List Cel) [97] (true, [120]) 5) = ((readP (laidP (setNo 3 0 ([] : List Cel) [97] (true, [120]) 5) (setG 3 0 ([] : List Cel) [97] (true, [120]) 5) (setL 3 0 ([] : List Cel) [97] (true, [120]) 5))).2.2.1) ∧ (setL 3 0 ([] : List Cel) [97] (true, [120]) 5) = ((readP (laidP (setNo 3 0 ([] : List Cel) [97] (true, [120]) 5) (setG 3 0 ([] : List Cel) [97] (true, [120]) 5) (setL 3 0 ([] : List Cel) [97] (true, [120]) 5))).2.2.2)))
            exact absurd (h37.symm.trans (show _ = true by simp only [aw11_e, aw11_no, aw11_g, aw11_l, aw11_v, readP_laid aw11_r] <;> first | done | decide | (simp; done) | ((try simp); decide))) (by decide)
        · -- not: (readP (laidP (setNo 3 0 ([] : List Cel) [97] (true, [120]) 5) (setG 3 0 ([] : List Cel) [97] (true, [120]) 5) (setL 3 0 ([] : List Cel) [97] (true, [120]) 5))).1
          exact absurd (h33.symm.trans (show _ = true by simp only [aw11_e, aw11_no, aw11_g, aw11_l, aw11_v, readP_laid aw11_r] <;> first | done | decide | (simp; done) | ((try simp); decide))) (by decide)
      · -- not: (((setL 3 0 ([] : List Cel) [97] (true, [120]) 5).length : Nat) : Int) = 1
        exact absurd (by simp only [aw11_e, aw11_no, aw11_g, aw11_l, aw11_v, readP_laid aw11_r] <;> first | done | decide | (simp; done) | ((try simp); decide)) h32
    · -- not: (setG 3 0 ([] : List Cel) [97] (true, [120]) 5) = 5
      exact absurd (by simp only [aw11_e, aw11_no, aw11_g, aw11_l, aw11_v, readP_laid aw11_r] <;> first | done | decide | (simp; done) | ((try simp); decide)) h31
  · -- not: (setE 3 0 ([] : List Cel) [97] (true, [120]) 5) = 0
    exact absurd (by simp only [aw11_e, aw11_no, aw11_g, aw11_l, aw11_v, readP_laid aw11_r] <;> first | done | decide | (simp; done) | ((try simp); decide)) h30
end Go.Q
namespace Go.Q
open Go.Proofs Go.Shelf
set_option maxRecDepth 100000
def ssl_ren : Go.Shelf.Ren := ⟨fun | 6 => 59 | 8 => 93 | 9 => 92 | 19 => 126 | 20 => 127 | 21 => 117 | 22 => 118 | 23 => 119 | 24 => 120 | 25 => 121 | 26 => 122 | 27 => 123 | 28 => 124 | 29 => 125 | 36 => 139 | 31 => 140 | 32 => 141 | 37 => 142 | 38 => 143 | 39 => 109 | 41 => 149 | n => n, fun | 27 => 32 | 29 => 9 | 3 => 3 | 32 => 130 | 26 => 32 | 0 => 0 | 44 => 128 | 46 => 155 | 4 => 4 | 36 => 160 | 35 => 159 | 41 => 74 | 5 => 5 | 9 => 9 | 53 => 176 | 57 => 180 | 63 => 185 | 64 => 186 | n => n, fun | n => n⟩
theorem ssl : Go.Proofs.SlLaysM.n6 Tryd.prog ssl_ren := {
  mixed := by kernel_rfl
  f6 := ⟨Tryd.f59.name, by decide, Tryd.func59.trans (congrArg some (by kernel_rfl))⟩
  f8 := Tryd.func93.trans (congrArg some (by kernel_rfl))
  f9 := ⟨Tryd.f92.name, by decide, Tryd.func92.trans (congrArg some (by kernel_rfl))⟩
  f19 := Tryd.func126.trans (congrArg some (by kernel_rfl))
  f20 := Tryd.func127.trans (congrArg some (by kernel_rfl))
  f21 := ⟨Tryd.f117.name, by decide, Tryd.func117.trans (congrArg some (by kernel_rfl))⟩
  f22 := ⟨Tryd.f118.name, by decide, Tryd.func118.trans (congrArg some (by kernel_rfl))⟩
  f23 := ⟨Tryd.f119.name, by decide, Tryd.func119.trans (congrArg some (by kernel_rfl))⟩
  f24 := ⟨Tryd.f120.name, by decide, Tryd.func120.trans (congrArg some (by kernel_rfl))⟩
  f25 := ⟨Tryd.f121.name, by decide, Tryd.func121.trans (congrArg some (by kernel_rfl))⟩
  f26 := ⟨Tryd.f122.name, by decide, Tryd.func122.trans (congrArg some (by kernel_rfl))⟩
  f27 := ⟨Tryd.f123.name, by decide, Tryd.func123.trans (congrArg some (by kernel_rfl))⟩
  f28 := ⟨Tryd.f124.name, by decide, Tryd.func124.trans (congrArg some (by kernel_rfl))⟩
  f29 := ⟨Tryd.f125.name, by decide, Tryd.func125.trans (congrArg some (by kernel_rfl))⟩
  f31 := Tryd.func140.trans (congrArg some (by kernel_rfl))
  f32 := Tryd.func141.trans (congrArg some (by kernel_rfl))
  f36 := ⟨Tryd.f139.name, by decide, Tryd.func139.trans (congrArg some (by kernel_rfl))⟩
  f37 := ⟨Tryd.f142.name, by decide, Tryd.func142.trans (congrArg some (by kernel_rfl))⟩
  f38 := ⟨Tryd.f143.name, by decide, Tryd.func143.trans (congrArg some (by kernel_rfl))⟩
  f39 := ⟨Tryd.f109.name, by decide, Tryd.func109.trans (congrArg some (by kernel_rfl))⟩
  f41 := ⟨Tryd.f149.name, by decide, Tryd.func149.trans (congrArg some (by kernel_rfl))⟩
  t0 := Tryd.underlying0
  a0 := Tryd.isAgg0
  z0 := Tryd.sizeOf0
  v0 := Tryd.zeroValue0
  t3 := Tryd.underlying3
  a3 := Tryd.isAgg3
  z3 := Tryd.sizeOf3
  v3 := Tryd.zeroValue3
  t4 := Tryd.underlying4
  a4 := Tryd.isAgg4
  z4 := Tryd.sizeOf4
  v4 := Tryd.zeroValue4
  t5 := Tryd.underlying5
  a5 := Tryd.isAgg5
  z5 := Tryd.sizeOf5
  v5 := Tryd.zeroValue5
  t9 := Tryd.underlying9
  a9 := Tryd.isAgg9
  z9 := Tryd.sizeOf9
  v9 := Tryd.zeroValue9
  t26 := Tryd.underlying32
  a26 := Tryd.isAgg32
  z26 := Tryd.sizeOf32
  v26 := Tryd.zeroValue32
  t27 := Tryd.underlying32
  a27 := Tryd.isAgg32
  z27 := Tryd.sizeOf32
  v27 := Tryd.zeroValue32
  t29 := Tryd.underlying9
  a29 := Tryd.isAgg9
  z29 := Tryd.sizeOf9
  v29 := Tryd.zeroValue9
  t32 := Tryd.underlying130
  a32 := Tryd.isAgg130
  z32 := Tryd.sizeOf130
  v32 := Tryd.zeroValue130
  t35 := Tryd.underlying159
  a35 := Tryd.isAgg159
  z35 := Tryd.sizeOf159
  v35 := Tryd.zeroValue159
  t36 := Tryd.underlying160
  a36 := Tryd.isAgg160
  z36 := Tryd.sizeOf160
  v36 := Tryd.zeroValue160
  t41 := Tryd.underlying74
  a41 := Tryd.isAgg74
  z41 := Tryd.sizeOf74
  v41 := Tryd.zeroValue74
  t44 := Tryd.underlying128
  a44 := Tryd.isAgg128
  z44 := Tryd.sizeOf128
  v44 := Tryd.zeroValue128
  t46 := Tryd.underlying155
  a46 := Tryd.isAgg155
  z46 := Tryd.sizeOf155
  v46 := Tryd.zeroValue155
  t53 := Tryd.underlying176
  a53 := Tryd.isAgg176
  z53 := Tryd.sizeOf176
  v53 := Tryd.zeroValue176
  t57 := Tryd.underlying180
  a57 := Tryd.isAgg180
  z57 := Tryd.sizeOf180
  v57 := Tryd.zeroValue180
  t63 := Tryd.underlying185
  a63 := Tryd.isAgg185
  z63 := Tryd.sizeOf185
  v63 := Tryd.zeroValue185
  t64 := Tryd.underlying186
  a64 := Tryd.isAgg186
  z64 := Tryd.sizeOf186
  v64 := Tryd.zeroValue186 }
def scl_ren : Go.Shelf.Ren := ⟨fun | 194 => 60 | n => n, fun | 31 => 32 | 9 => 9 | 3 => 3 | 4 => 4 | 0 => 0 | n => n, fun | n => n⟩
theorem scl : Go.Proofs.Lays.n194 Tryd.prog scl_ren := {
  mixed := by kernel_rfl
  f194 := Tryd.func60.trans (congrArg some (by kernel_rfl))
  t0 := Tryd.underlying0
  a0 := Tryd.isAgg0
  z0 := Tryd.sizeOf0
  v0 := Tryd.zeroValue0
  t3 := Tryd.underlying3
  a3 := Tryd.isAgg3
  z3 := Tryd.sizeOf3
  v3 := Tryd.zeroValue3
  t4 := Tryd.underlying4
  a4 := Tryd.isAgg4
  z4 := Tryd.sizeOf4
  v4 := Tryd.zeroValue4
  t9 := Tryd.underlying9
  a9 := Tryd.isAgg9
  z9 := Tryd.sizeOf9
  v9 := Tryd.zeroValue9
  t31 := Tryd.underlying32
  a31 := Tryd.isAgg32
  z31 := Tryd.sizeOf32
  v31 := Tryd.zeroValue32 }

open Go.RowKit Go.Lib Go.Sort
def sortB (l : List Bs) : List Bs := l.mergeSort fun x y => decide (x ≤ y)
theorem ssort_c {E w : World} {R : List Hp} {v : Value} {s : List Hp} {l : List Bs} (hH : Has E w [s, R]) (ho : Own 9 1 v l.length (l.map sV) s) (hl : l.length ≤ 1000000) :
    Calls Tryd.prog 59 #[v] w fun e w' => ∃ s', e = .returned (.tuple #[]) ∧ Own 9 1 v (sortB l).length ((sortB l).map sV) s' ∧ Has E w' [s', R] := by
  have hn : (sortB l).length = l.length := by unfold sortB; rw [List.length_mergeSort]
  have ho0 := ho
  obtain ⟨hcl, ⟨rfl, hz, rfl⟩ | ⟨b, cap, cur, rfl, rfl, hnc, hcm, hcs, htake⟩⟩ := ho
  · obtain rfl : l = [] := List.length_eq_zero_iff.1 hz
    refine (AnyM.slices_Sort_string_none ssl none 0 w).mono fun e w' h => ?_
    obtain ⟨rfl, rfl⟩ := h
    refine ⟨[], rfl, ?_, hH⟩
    have : sortB ([] : List Bs) = [] := by unfold sortB; exact List.mergeSort_nil
    rw [this]; exact ho0
  · have hb : w.heap[b]? = some (.cells cur 9 (0, 0)) := hH.at (by simp) (Hp.one_at _ _)
    have hh : Holds encStr w b 0 l.toArray := holds_of_block hb (by rw [Nat.mul_one] at htake; exact htake)
    refine (AnyM.slices_Sort_string ssl b 0 cap l w hh (Array.getElem?_eq_some_iff.1 hb).1 (by omega)).mono fun e w' h => ?_
    obtain ⟨rfl, n, os, rfl⟩ := h
    have hr := ownsRow_sorted (n := n) (os := os) (ts := sortB l) hn (Nat.zero_le _) hb hnc hcm hcs
    obtain ⟨s', h1, h2⟩ := ho0.turn hH hr (grownBy_sorted _) (.inl rfl)
    exact ⟨s', rfl, by rw [hn]; exact h1, h2⟩
theorem scompact_c {E w : World} {R : List Hp} {v : Value} {s : List Hp} {l : List Bs} (hH : Has E w [s, R]) (ho : Own 9 1 v l.length (l.map sV) s) (hl : l.length ≤ 1000000) :
    Calls Tryd.prog 60 #[v] w fun e w' => ∃ v' s', e = .returned v' ∧ Own 9 1 v' (Lib.compact l).length ((Lib.compact l).map sV) s' ∧ Has E w' [s', R] := by
  have ho0 := ho
  obtain ⟨hcl, ⟨rfl, hz, rfl⟩ | ⟨b, cap, cur, rfl, rfl, hnc, hcm, hcs, htake⟩⟩ := ho
  · obtain rfl : l = [] := List.length_eq_zero_iff.1 hz
    refine (Any.slices_Compact_string_empty scl none 0 w).mono fun e w' h => ?_
    obtain ⟨rfl, rfl⟩ := h
    exact ⟨_, [], rfl, ho0, hH⟩
  · have hb : w.heap[b]? = some (.cells cur 9 (0, 0)) := hH.at (by simp) (Hp.one_at _ _)
    have hh : Holds encStr w b 0 l.toArray := holds_of_block hb (by rw [Nat.mul_one] at htake; exact htake)
    refine (Any.slices_Compact_string scl b 0 cap l w hh (by omega) hnc).mono fun e w' h => ?_
    obtain ⟨rfl, q, hw⟩ := h
    have hk : (Lib.compact l).length ≤ l.length := by unfold Lib.compact compactUpTo; rw [List.length_map]; exact Nat.le_trans (List.length_filter_le _ _) (by rw [List.length_range]; exact Nat.le_refl _)
    have hw2 : w' = grow (putRow encStr (Sort.ahead w q) b 0 (Lib.compact l ++ List.replicate (l.length - (Lib.compact l).length) []).toArray) #[] := by
      rw [hw]; unfold grow; rw [Array.append_empty]
    have hts : (Lib.compact l ++ List.replicate (l.length - (Lib.compact l).length) ([] : Bs)).length = l.length := by rw [List.length_append, List.length_replicate]; omega
    have ht := take_putCells cur (Lib.compact l ++ List.replicate (l.length - (Lib.compact l).length) []) (by omega)
    have hr : w'.ownsRow 0 9 1 (.slice (some ⟨b, 0, none⟩) (Lib.compact l).length cap) (Lib.compact l).length ((Lib.compact l).map sV) := by
      refine ⟨by simp, .inr ⟨b, cap, _, rfl, Nat.zero_le _, by rw [hw2]; exact heap_sorted _ hb, by omega, hcm, by simp [putCells, hcs], ?_⟩⟩
      rw [Nat.mul_one]
      have h2 := congrArg (List.take (Lib.compact l).length) ht
      rw [List.take_take, Nat.min_eq_left (by omega), List.map_append, List.take_left' (by simp)] at h2
      exact h2
    obtain ⟨s', h1, h2⟩ := ho0.turn hH hr (by rw [hw2]; exact grownBy_sorted _) (.inl rfl)
    exact ⟨_, s', rfl, h1, h2⟩
end Go.Q
namespace Go.Q
theorem bs_le {x y : Bs} : x ≤ y ↔ x < y ∨ x = y := List.le_iff_lt_or_eq
theorem bs_tot (x y : Bs) : x < y ∨ x = y ∨ y < x := by
  by_cases h : x < y
  · exact .inl h
  · rcases bs_le.1 (List.not_lt.1 h) with e | e
    · exact .inr (.inr e)
    · exact .inr (.inl e.symm)
theorem sortB_mem {l : List Bs} {x : Bs} : x ∈ sortB l ↔ x ∈ l := (List.mergeSort_perm ..).mem_iff
theorem sortB_pair (l : List Bs) : (sortB l).Pairwise fun a b => a ≤ b := by
  have h := List.pairwise_mergeSort (le := fun x y : Bs => decide (x ≤ y)) (fun a b c h1 h2 => by
    simp only [decide_eq_true_eq] at h1 h2 ⊢
    rcases bs_le.1 h1 with e | e
    · rcases bs_le.1 h2 with g | g
      · exact bs_le.2 (.inl (bs_tr e g))
      · subst g; exact h1
    · subst e; exact h2) (fun a b => by
    simp only [Bool.or_eq_true, decide_eq_true_eq]
    rcases bs_tot a b with e | e | e
    · exact .inl (bs_le.2 (.inl e))
    · exact .inl (bs_le.2 (.inr e))
    · exact .inr (bs_le.2 (.inl e))) l
  exact h.imp fun h => by simpa using h
open Go.Lib in
theorem compact_upto {l : List Bs} (h : l.Pairwise fun a b => a ≤ b) : ∀ m, m ≤ l.length → (compactUpTo l.toArray m).Pairwise (fun a b => a < b) ∧ (∀ x, x ∈ compactUpTo l.toArray m ↔ x ∈ l.take m)
  | 0, _ => by simp [compactUpTo]
  | m + 1, hm => by
    obtain ⟨h1, h2⟩ := compact_upto h m (by omega)
    rw [compactUpTo_succ]
    have hg : l.toArray[m]! = l[m]'(by omega) := by rw [getElem!_pos _ m (by simp; omega)]; simp
    have hx : l[m]? = some (l[m]'(by omega)) := List.getElem?_eq_getElem _
    have htk : l.take (m + 1) = l.take m ++ [l[m]'(by omega)] := by rw [List.take_add_one, hx]; rfl
    cases hk : keeps l.toArray m with
    | true =>
      rw [if_pos rfl, hg]
      constructor
      · refine List.pairwise_append.2 ⟨h1, by simp, fun a ha b hb => ?_⟩
        rw [List.mem_singleton.1 hb]
        have ha2 := (h2 a).1 ha
        obtain ⟨j, hj⟩ := List.getElem?_of_mem ha2
        obtain ⟨hj1, hj2⟩ := List.getElem?_eq_some_iff.1 hj
        rw [List.length_take] at hj1
        rw [List.getElem_take] at hj2
        have h0 : m ≠ 0 := by omega
        have hne : l[m]'(by omega) ≠ l[m - 1]'(by omega) := by
          unfold keeps at hk
          rw [hg, getElem!_pos l.toArray (m - 1) (by simp; omega)] at hk
          rcases of_decide_eq_true hk with e | e
          · exact absurd e h0
          · simpa using e
        have hle : l[m - 1]'(by omega) ≤ l[m]'(by omega) := List.pairwise_iff_getElem.1 h (m - 1) m (by omega) (by omega) (by omega)
        have hlt : l[m - 1]'(by omega) < l[m]'(by omega) := by
          rcases bs_le.1 hle with e | e
          · exact e
          · exact absurd e.symm hne
        rw [← hj2]
        by_cases e : j = m - 1
        · subst e; exact hlt
        · have := List.pairwise_iff_getElem.1 h j (m - 1) (by omega) (by omega) (by omega)
          rcases bs_le.1 this with g | g
          · exact bs_tr g hlt
          · rw [g]; exact hlt
      · intro x; rw [List.mem_append, htk, List.mem_append, h2]
    | false =>
      rw [if_neg (by simp), List.append_nil]
      refine ⟨h1, fun x => ?_⟩
      rw [h2, htk, List.mem_append]
      constructor
      · exact .inl
      · rintro (e | e)
        · exact e
        · unfold keeps at hk
          have hk := of_decide_eq_false hk
          have h0 : m ≠ 0 := fun g => hk (.inl g)
          have heq : l.toArray[m]! = l.toArray[m - 1]! := Classical.not_not.1 fun g => hk (.inr g)
          rw [hg, getElem!_pos l.toArray (m - 1) (by simp; omega)] at heq
          rw [List.mem_singleton.1 e, heq]
          refine List.mem_of_getElem? (i := m - 1) ?_
          rw [List.getElem?_take, if_pos (by omega)]
          simp
def kysS (l : List Bs) : List Bs := Lib.compact (sortB l)
theorem kysS_pair (l : List Bs) : (kysS l).Pairwise fun a b => a < b := (compact_upto (sortB_pair l) _ (Nat.le_refl _)).1
theorem kysS_mem {l : List Bs} {x : Bs} : x ∈ kysS l ↔ x ∈ l := by
  have := (compact_upto (sortB_pair l) _ (Nat.le_refl _)).2 x
  rw [List.take_length, sortB_mem] at this
  exact this
/-- the law's own keys: sorted, and those seen -/
def KsOk (ks l : List Bs) : Prop := ks.Pairwise (fun a b => a < b) ∧ ∀ x, x ∈ ks ↔ x ∈ l
theorem ksOk_eq {ks l : List Bs} (h : KsOk ks l) : kysS l = ks :=
  sortedC_eq bs_irr (fun x y z => bs_tr) (kysS_pair l) h.1 fun x => by rw [kysS_mem, h.2]
theorem ksOk_nil : KsOk [] [] := ⟨.nil, fun x => Iff.rfl⟩
theorem ks_in {ks l : List Bs} {k : Bs} {i at_ : Nat} (h : KsOk ks (l.take i)) (hx : l[i]? = some k) (hk : ks[at_]? = some k) : KsOk ks (l.take (i + 1)) := by
  refine ⟨h.1, fun x => ?_⟩
  rw [List.take_add_one, hx, Option.toList_some, List.mem_append, h.2, List.mem_singleton]
  constructor
  · exact .inl
  · rintro (e | e)
    · exact e
    · rw [e]; exact (h.2 k).1 (List.mem_of_getElem? hk)
theorem ks_ins {ks l : List Bs} {k : Bs} {i at_ : Nat} (h : KsOk ks (l.take i)) (hx : l[i]? = some k) (ha : at_ ≤ ks.length) (hlo : ∀ a ∈ ks.take at_, a < k) (hhi : ∀ a, ks[at_]? = some a → ¬ a < k ∧ a ≠ k) : KsOk (ks.take at_ ++ k :: ks.drop at_) (l.take (i + 1)) := by
  have hp := h.1
  rw [← List.take_append_drop at_ ks] at hp
  obtain ⟨p1, p2, p3⟩ := List.pairwise_append.1 hp
  have hgt : ∀ a ∈ ks.drop at_, k < a := by
    intro a hm
    cases hd : ks.drop at_ with
    | nil => rw [hd] at hm; cases hm
    | cons y t =>
      have hy : ks[at_]? = some y := by rw [← List.head?_drop, hd]; rfl
      obtain ⟨n1, n2⟩ := hhi y hy
      have hky : k < y := by rcases bs_tot y k with e | e | e; exact absurd e n1; exact absurd e n2; exact e
      rw [hd] at hm p2
      rcases List.mem_cons.1 hm with e | e
      · rw [e]; exact hky
      · exact bs_tr hky ((List.pairwise_cons.1 p2).1 a e)
  refine ⟨List.pairwise_append.2 ⟨p1, List.pairwise_cons.2 ⟨hgt, p2⟩, fun a ha2 b hb => ?_⟩, fun x => ?_⟩
  · rcases List.mem_cons.1 hb with e | e
    · rw [e]; exact hlo a ha2
    · exact p3 a ha2 b e
  · rw [List.take_add_one, hx, Option.toList_some, List.mem_append, List.mem_append, ← h.2, List.mem_cons, List.mem_singleton]
    have : x ∈ ks ↔ x ∈ ks.take at_ ∨ x ∈ ks.drop at_ := by rw [← List.mem_append, List.take_append_drop]
    rw [this]
    constructor
    · rintro (e | e | e)
      · exact .inl (.inl e)
      · exact .inr e
      · exact .inl (.inr e)
    · rintro ((e | e) | e)
      · exact .inl e
      · exact .inr (.inr e)
      · exact .inr (.inl e)
/-- the row, moved up from its end to a place -/
def Mov (ks cur : List Bs) (j : Nat) : Prop := cur.length = ks.length + 1 ∧ cur.take j = ks.take j ∧ cur.drop (j + 1) = ks.drop j
theorem mov_start {ks : List Bs} : Mov ks (ks ++ [[]]) ks.length := ⟨by simp, by simp, by simp⟩
theorem mov_step {ks cur : List Bs} {j : Nat} {x : Bs} (h : Mov ks cur (j + 1)) (hj : j + 1 ≤ ks.length) (hx : cur[j]? = some x) : Mov ks (cur.set (j + 1) x) j := by
  obtain ⟨h1, h2, h3⟩ := h
  have hxk : ks[j]? = some x := by
    have := congrArg (·[j]?) h2
    simp only [List.getElem?_take, if_pos (Nat.lt_succ_self j)] at this
    rw [← this]; exact hx
  refine ⟨by rw [List.length_set]; exact h1, ?_, ?_⟩
  · have := congrArg (List.take j) h2
    rw [List.take_take, List.take_take, Nat.min_eq_left (by omega)] at this
    rw [List.take_set_of_le (by omega)]; exact this
  · rw [List.drop_set, if_neg (by omega), Nat.sub_self, List.drop_eq_getElem_cons (show j + 1 < cur.length by omega), List.set_cons_zero, h3]
    obtain ⟨g1, g2⟩ := List.getElem?_eq_some_iff.1 hxk
    rw [List.drop_eq_getElem_cons g1, g2]
theorem mov_end {ks cur : List Bs} {j : Nat} {k : Bs} (h : Mov ks cur j) (hj : j ≤ ks.length) : cur.set j k = ks.take j ++ k :: ks.drop j := by
  obtain ⟨h1, h2, h3⟩ := h
  rw [List.set_eq_take_append_cons_drop, if_pos (by omega), h2, h3]
theorem kk_a {la lb : List Cel} {i : Nat} {x : Cel} (h : la[i]? = some x) : (la.map (fun c => c.1) ++ lb.map (fun c => c.1))[i]? = some x.1 := by
  rw [List.getElem?_append_left (by rw [List.length_map]; exact (List.getElem?_eq_some_iff.1 h).1), List.getElem?_map, h]; rfl
theorem kk_b {la lb : List Cel} {i j : Nat} {x : Cel} (h : lb[j]? = some x) (hj : i = la.length + j) : (la.map (fun c => c.1) ++ lb.map (fun c => c.1))[i]? = some x.1 := by
  rw [List.getElem?_append_right (by rw [List.length_map]; omega), List.length_map, show i - la.length = j by omega, List.getElem?_map, h]; rfl
theorem lo_nextK {ks : List Bs} {k x : Bs} {i : Nat} (h : ∀ a ∈ ks.take i, a < k) (hx : ks[i]? = some x) (hk : x < k) : ∀ a ∈ ks.take (i + 1), a < k := by
  intro a ha
  rw [List.take_add_one, hx, Option.toList_some, List.mem_append, List.mem_singleton] at ha
  rcases ha with e | e
  · exact h a e
  · rw [e]; exact hk
def pgC (a : Int × Int × Value × List Cel) : List Value := [.int .i64 a.1, .int .i64 a.2.1, a.2.2.1]
theorem pgC_len (a : Int × Int × Value × List Cel) : (pgC a).length = 3 := rfl
def pgK (a : Int × Int × Value × List Cel) : List Bs := a.2.2.2.map fun c => c.1
theorem pgk_step {ps : List (Int × Int × Value × List Cel)} {k : Nat} {x : Int × Int × Value × List Cel} {acc acc2 : List Bs} {j : Nat} (h : acc = (ps.take k).flatMap pgK) (hx : ps[k]? = some x) (h2 : acc2 = acc ++ (x.2.2.2.take j).map (fun c => c.1)) (hj : j = x.2.2.2.length) : acc2 = (ps.take (k + 1)).flatMap pgK := by
  rw [h2, h, hj, List.take_length, List.take_add_one, hx, Option.toList_some, List.flatMap_append, List.flatMap_cons, List.flatMap_nil, List.append_nil]; rfl
end Go.Q
namespace Go.Q
open Go.Proofs
set_option linter.unusedVariables false
set_option maxRecDepth 100000
attribute [local irreducible] wpList OK Code.wp
set_option maxHeartbeats 4000000 in
theorem texts_c {E w : World} {R : List Hp} {v_l : Value} {l : List (List UInt8)} {v_m : Value} {m : List (List UInt8)}  (hH : Has E w [R]) (h_l : Sl R 1 v_l l.length (l.map sV)) (h_m : Sl R 1 v_m m.length (m.map sV)) :
    Calls Tryd.prog 22 #[v_l, v_m] w fun e w' => e = .returned (.bool (decide (l = m))) ∧ Has E w' [R] := by
  have hn_ := h_l.le
  have hm_ := h_m.le
  refine c_enter (args := [v_l, v_m]) Tryd.func22 rfl Tryd.ntmps22 (by simp) ?_
  refine wp_seq_k fun K1 hK1 => ?_
  refine c_region ?_
  refine s_op (o_assign (v := (.bool false)) rfl ?_)
  refine s_nil ?_
  refine t_norm (hK1 _ _ ?_)
  refine wp_seq_k fun K2 hK2 => ?_
  refine wp_seq_k fun K3 hK3 => ?_
  refine c_region ?_
  refine s_op (o_move (v := v_l) rfl ?_)
  refine s_op (o_lenS Tryd.underlying32 rfl h_l ?_)
  refine s_op (o_move (v := v_m) rfl ?_)
  refine s_op (o_lenS Tryd.underlying32 rfl h_m ?_)
  refine s_op (o_neq (a := ((l.length : Nat) : Int)) (b := ((m.length : Nat) : Int)) rfl rfl ?_)
  refine s_nil ?_
  refine t_norm (hK3 _ _ ?_)
  refine c_cond rfl (fun h4 => ?_) (fun h4 => ?_)
  · -- ((l.length : Nat) : Int) ≠ ((m.length : Nat) : Int)
    refine wp_seq_k fun K5 hK5 => ?_
    refine c_region ?_
    refine s_op (o_assign (v := (.bool false)) rfl ?_)
    refine s_nil ?_
    refine t_norm (hK5 _ _ ?_)
    refine wp_ret ?_
    refine t_ret (c_ret1 Tryd.results22  (v := (.bool false)) rfl ?_)
    have q6 : (decide (l = m)) = false := by rw [decide_eq_false (fun e_ => by subst e_; omega)]
    exact ⟨by rw [q6], hH⟩
  · -- not: ((l.length : Nat) : Int) ≠ ((m.length : Nat) : Int)
    refine wp_skip ?_
    refine t_norm (hK2 _ _ ?_)
    refine wp_seq_k fun K7 hK7 => ?_
    refine wp_seq_k fun K8 hK8 => ?_
    refine c_region ?_
    refine s_op (o_assign (v := (.int .i64 0)) rfl ?_)
    refine s_nil ?_
    refine t_norm (hK8 _ _ ?_)
    refine wp_block ?_
    let I10 : Nat → (Nat → Value) → World → Prop := fun n__ r__ w__ => ∃ (k : Nat), n__ = l.length - k ∧ Has E w__ [R] ∧ (k ≤ l.length) ∧ (∀ j, j < k → l[j]? = m[j]?) ∧ r__ 0 = v_l ∧ r__ 1 = v_m ∧ r__ 5 = (.int .i64 (k : Int)) ∧ r__ 10 = (.bool (decide (((l.length : Nat) : Int) ≠ ((m.length : Nat) : Int))))
    refine c_loop I10 _ ⟨0, rfl, hH, Nat.zero_le _, fun j hj => absurd hj (Nat.not_lt_zero j), rfl, rfl, rfl, rfl⟩ ?_
    rintro n_ r13 w11 ⟨k, rfl, hH12, hk, he, e9_0, e9_1, e9_5, e9_10⟩
    refine wp_seq_k fun K14 hK14 => ?_
    refine wp_seq_k fun K15 hK15 => ?_
    refine c_region ?_
    refine s_op (o_move (v := (.int .i64 (k : Int))) e9_5 ?_)
    refine s_op (o_move (v := v_l) e9_0 ?_)
    refine s_op (o_lenS Tryd.underlying32 rfl h_l ?_)
    refine s_op (o_lss (a := (k : Int)) (b := ((l.length : Nat) : Int)) rfl rfl ?_)
    refine s_nil ?_
    refine t_norm (hK15 _ _ ?_)
    refine c_cond rfl (fun h16 => ?_) (fun h16 => ?_)
    · -- (k : Int) < ((l.length : Nat) : Int)
      refine wp_skip ?_
      refine t_norm (hK14 _ _ ?_)
      refine wp_seq_k fun K17 hK17 => ?_
      refine wp_block ?_
      refine wp_seq_k fun K18 hK18 => ?_
      refine Rest.region mixed (by kernel_rfl) ?_
      have hH19 : Has E { w11 with drawn := w11.drawn + 1 } [R] := Has0.drew hH12 _
      refine Rest.phaseA (fun w_ => Has E w_ [R]) 0 8 8 rfl (by decide) (by kernel_rfl) ?_
      refine a_op 0 rfl (by kernel_rfl) (fun w_ h_ => o_move (v := v_l) e9_0 ⟨rfl, rfl⟩) ?_
      refine a_op 1 rfl (by kernel_rfl) (fun w_ h_ => o_move (v := (.int .i64 (k : Int))) e9_5 ⟨rfl, rfl⟩) ?_
      obtain ⟨x23, hx24⟩ : ∃ x_, l[((k : Int)).toNat]? = some x_ := get_some (by omega)
      obtain ⟨b20, o21, hc22, ho25⟩ := ix_ex1 Tryd.underlying32 ti9 h_l (by omega) hx24
      refine a_op 2 rfl (by kernel_rfl) (fun w_ h_ => ho25 rfl rfl ⟨rfl, rfl⟩) ?_
      refine a_op 3 rfl (by kernel_rfl) (fun w_ h_ => o_load1 (v := (S x23)) Tryd.underlying9 rfl rfl h_ (seg_sub 0 rfl) hc22 ⟨rfl, rfl⟩) ?_
      refine a_op 4 rfl (by kernel_rfl) (fun w_ h_ => o_move (v := v_m) e9_1 ⟨rfl, rfl⟩) ?_
      refine a_op 5 rfl (by kernel_rfl) (fun w_ h_ => o_move (v := (.int .i64 (k : Int))) e9_5 ⟨rfl, rfl⟩) ?_
      obtain ⟨x29, hx30⟩ : ∃ x_, m[((k : Int)).toNat]? = some x_ := get_some (by omega)
      obtain ⟨b26, o27, hc28, ho31⟩ := ix_ex1 Tryd.underlying32 ti9 h_m (by omega) hx30
      refine a_op 6 rfl (by kernel_rfl) (fun w_ h_ => ho31 rfl rfl ⟨rfl, rfl⟩) ?_
      refine a_op 7 rfl (by kernel_rfl) (fun w_ h_ => o_load1 (v := (S x29)) Tryd.underlying9 rfl rfl h_ (seg_sub 0 rfl) hc28 ⟨rfl, rfl⟩) ?_
      refine a_done (by kernel_rfl) hH19 ?_
      refine r_op 8 rfl (by kernel_rfl) (o_sneq (a := x23) (b := x29) rfl rfl ?_)
      refine Rest.done (by kernel_rfl) ?_
      refine t_norm (hK18 _ _ ?_)
      refine c_cond rfl (fun h32 => ?_) (fun h32 => ?_)
      · -- x23 ≠ x29
        refine wp_seq_k fun K33 hK33 => ?_
        refine c_region ?_
        refine s_op (o_assign (v := (.bool false)) rfl ?_)
        refine s_nil ?_
        refine t_norm (hK33 _ _ ?_)
        refine wp_ret ?_
        refine b_ret (t_ret (t_ret (b_ret (t_ret (c_ret1 Tryd.results22  (v := (.bool false)) rfl ?_)))))
        have q34 : (decide (l = m)) = false := by rw [decide_eq_false (same_not hx24 hx30 h32)]
        exact ⟨by rw [q34], hH19⟩
      · -- not: x23 ≠ x29
        refine wp_skip ?_
        refine b_norm ?_
        refine t_norm (hK17 _ _ ?_)
        refine c_region ?_
        refine s_op (o_move (v := (.int .i64 (k : Int))) e9_5 ?_)
        refine s_op (o_add (a := (k : Int)) (b := 1) rfl rfl (w64 (by omega) (by omega)) ?_)
        refine s_op (o_assign (v := (.int .i64 ((k : Int) + 1))) rfl ?_)
        refine s_nil ?_
        refine t_norm ⟨l.length - (k + 1), _, rfl, ?_, ?_⟩
        · omega
        · exact ⟨(k + 1), rfl, hH19, (by omega), (same_next he (show l[k]? = some _ from hx24) (show m[k]? = some _ from hx30) (Classical.not_not.1 h32)), e9_0, e9_1, rfl, e9_10⟩
    · -- not: (k : Int) < ((l.length : Nat) : Int)
      refine wp_exit ?_
      refine t_exit (t_exit (x_in (?_)))
      refine t_norm (hK7 _ _ ?_)
      refine wp_seq_k fun K35 hK35 => ?_
      refine c_region ?_
      refine s_op (o_assign (v := (.bool true)) rfl ?_)
      refine s_nil ?_
      refine t_norm (hK35 _ _ ?_)
      refine wp_ret ?_
      refine c_ret1 Tryd.results22  (v := (.bool true)) rfl ?_
      have q36 : (decide (l = m)) = true := by rw [decide_eq_true (same_all he (by omega) (by omega))]
      exact ⟨by rw [q36], hH12⟩
set_option maxHeartbeats 4000000 in
theorem pkeys_c {E w : World} {R : List Hp} {v_ps : Value} {ps : List (Int × Int × Value × List Cel)}  (hH : Has E w [R]) (h_ps : Sl R 3 v_ps ps.length (ps.flatMap pgC)) (hps : ∀ a ∈ ps, Sl R 2 a.2.2.1 a.2.2.2.length (a.2.2.2.flatMap ceC)) (hsz : ∀ a ∈ ps, a.2.2.2.length ≤ 20) (hpn : ps.length ≤ 2) :
    Calls Tryd.prog 23 #[v_ps] w fun e w' => ∃ (v1' : Value) (s2' : List Hp), e = .returned v1' ∧ (Own 9 1 v1' (kysS (ps.flatMap pgK)).length ((kysS (ps.flatMap pgK)).map sV) s2') ∧ Has E w' [s2', R] := by
  have hn_ := h_ps.le
  refine c_enter (args := [v_ps]) Tryd.func23 rfl Tryd.ntmps23 (by simp) ?_
  refine wp_seq_k fun K1 hK1 => ?_
  refine c_region ?_
  refine s_op (o_assign (v := (.slice none 0 0)) rfl ?_)
  refine s_nil ?_
  refine t_norm (hK1 _ _ ?_)
  refine wp_seq_k fun K2 hK2 => ?_
  refine c_region ?_
  refine s_op (o_assign (v := (.slice none 0 0)) rfl ?_)
  refine s_nil ?_
  refine t_norm (hK2 _ _ ?_)
  refine wp_seq_k fun K3 hK3 => ?_
  refine wp_seq_k fun K4 hK4 => ?_
  refine c_region ?_
  refine s_op (o_move (v := v_ps) rfl ?_)
  refine s_op (o_lenS Tryd.underlying99 rfl h_ps ?_)
  refine s_op (o_move (v := (.int .i64 0)) rfl ?_)
  refine s_nil ?_
  refine t_norm (hK4 _ _ ?_)
  refine wp_block ?_
  let I6 : Nat → (Nat → Value) → World → Prop := fun n__ r__ w__ => ∃ (k : Nat) (vo : Value) (so : List Hp) (acc : List Bs), n__ = ps.length - k ∧ Has E w__ [so, R] ∧ (k ≤ ps.length) ∧ (Own 9 1 vo acc.length (acc.map sV) so) ∧ (acc = (ps.take k).flatMap pgK) ∧ (acc.length ≤ 20 * k) ∧ r__ 0 = v_ps ∧ r__ 2 = (.slice none 0 0) ∧ r__ 3 = vo ∧ r__ 8 = v_ps ∧ r__ 9 = (.int .i64 ((ps.length : Nat) : Int)) ∧ r__ 10 = (.int .i64 (k : Int))
  have hH7 : Has E w [[], R] := (Has.nil hH).first 2 rfl
  refine c_loop I6 _ ⟨0, (.slice none 0 0), [], [], rfl, hH7, Nat.zero_le _, Own.nil 9 1, rfl, (by simp), rfl, rfl, rfl, rfl, rfl, rfl⟩ ?_
  rintro n_ r10 w8 ⟨k, vo, so, acc, rfl, hH9, hk, hoo, hac, hal, e5_0, e5_2, e5_3, e5_8, e5_9, e5_10⟩
  refine wp_seq_k fun K11 hK11 => ?_
  refine c_region ?_
  refine s_op (o_lss (a := (k : Int)) (b := ((ps.length : Nat) : Int)) e5_10 e5_9 ?_)
  refine s_nil ?_
  refine t_norm (hK11 _ _ ?_)
  refine wp_seq_k fun K12 hK12 => ?_
  refine c_cond rfl (fun h13 => ?_) (fun h13 => ?_)
  · -- (k : Int) < ((ps.length : Nat) : Int)
    refine wp_skip ?_
    refine t_norm (hK12 _ _ ?_)
    refine wp_seq_k fun K14 hK14 => ?_
    refine wp_block ?_
    refine wp_seq_k fun K15 hK15 => ?_
    refine c_region ?_
    obtain ⟨x19, hx20⟩ : ∃ x_, ps[((k : Int)).toNat]? = some x_ := get_some (by omega)
    refine s_op (o_indexF pgC_len Tryd.underlying99 ti24 e5_8 h_ps rfl e5_10 (by omega) hx20 fun b16 o17 hc18 => ?_)
    refine s_op (o_loadN (cs := [(.int .i64 x19.1), (.int .i64 x19.2.1), x19.2.2.1]) Tryd.underlying24 rfl ti24 rfl hH9 (seg_sub 1 rfl) hc18 ?_)
    refine s_op (o_alloc (cs := #[(.int .i64 0), (.int .i64 0), (.slice none 0 0)]) ti24 rfl hH9 fun b21 w22 hH23 => ?_)
    refine s_eff (o_storeN (vs := [(.int .i64 x19.1), (.int .i64 x19.2.1), x19.2.2.1]) (c' := #[(.int .i64 x19.1), (.int .i64 x19.2.1), x19.2.2.1]) ti24 rfl rfl rfl rfl (by intro u hu; simp only [List.mem_cons, List.not_mem_nil, or_false] at hu; rcases hu with rfl | rfl | rfl <;> first | rfl | exact (hps _ (List.mem_of_getElem? hx20)).one) (by simp) (by kernel_rfl) (hH23.front 0 rfl) fun w24 hH25 => ?_)
    refine s_nil ?_
    refine t_norm (hK15 _ _ ?_)
    refine wp_seq_k fun K26 hK26 => ?_
    refine c_region ?_
    refine s_op (o_fieldAddr (k := 2) (fun _ => by kernel_rfl) rfl ?_)
    refine s_op (o_load1 (v := x19.2.2.1) Tryd.underlying22 rfl rfl hH25 (seg_sub 0 rfl) (CellsAt.one rfl) ?_)
    refine s_op (o_lenS Tryd.underlying22 rfl (hps _ (List.mem_of_getElem? hx20)) ?_)
    refine s_op (o_move (v := (.int .i64 0)) rfl ?_)
    refine s_nil ?_
    refine t_norm (hK26 _ _ ?_)
    refine wp_block ?_
    have hx20_ := hsz _ (List.mem_of_getElem? hx20)
    let I28 : Nat → (Nat → Value) → World → Prop := fun n__ r__ w__ => ∃ (j : Nat) (v2 : Value) (s2 : List Hp) (acc2 : List Bs), n__ = x19.2.2.2.length - j ∧ Has E w__ [s2, [Hp.one b21 (.cells #[(.int .i64 x19.1), (.int .i64 x19.2.1), x19.2.2.1] 24 (0, 0))], R] ∧ (j ≤ x19.2.2.2.length) ∧ (Own 9 1 v2 acc2.length (acc2.map sV) s2) ∧ (acc2 = acc ++ (x19.2.2.2.take j).map (fun c => c.1)) ∧ (acc2.length ≤ 20 * k + j) ∧ r__ 0 = v_ps ∧ r__ 2 = (.slice none 0 0) ∧ r__ 3 = v2 ∧ r__ 5 = (.pointer (some ⟨b21, 0, none⟩)) ∧ r__ 8 = v_ps ∧ r__ 9 = (.int .i64 ((ps.length : Nat) : Int)) ∧ r__ 10 = (.int .i64 (k : Int)) ∧ r__ 11 = (.bool (decide ((k : Int) < ((ps.length : Nat) : Int)))) ∧ r__ 15 = x19.2.2.1 ∧ r__ 16 = (.int .i64 ((x19.2.2.2.length : Nat) : Int)) ∧ r__ 17 = (.int .i64 (j : Int))
    have hH29 : Has E w24 [so, [Hp.one b21 (.cells #[(.int .i64 x19.1), (.int .i64 x19.2.1), x19.2.2.1] 24 (0, 0))], R] := (((hH25.front 2 rfl).front 1 rfl).front 2 rfl).first 3 rfl
    refine c_loop I28 _ ⟨0, vo, so, acc, rfl, hH29, Nat.zero_le _, hoo, (by simp), (by omega), e5_0, e5_2, e5_3, rfl, e5_8, e5_9, e5_10, rfl, rfl, rfl, rfl⟩ ?_
    rintro n_ r32 w30 ⟨j, v2, s2, acc2, rfl, hH31, hj, ho2, hac2, hal2, e27_0, e27_2, e27_3, e27_5, e27_8, e27_9, e27_10, e27_11, e27_15, e27_16, e27_17⟩
    refine wp_seq_k fun K33 hK33 => ?_
    refine c_region ?_
    refine s_op (o_lss (a := (j : Int)) (b := ((x19.2.2.2.length : Nat) : Int)) e27_17 e27_16 ?_)
    refine s_nil ?_
    refine t_norm (hK33 _ _ ?_)
    refine wp_seq_k fun K34 hK34 => ?_
    refine c_cond rfl (fun h35 => ?_) (fun h35 => ?_)
    · -- (j : Int) < ((x19.2.2.2.length : Nat) : Int)
      refine wp_skip ?_
      refine t_norm (hK34 _ _ ?_)
      refine wp_seq_k fun K36 hK36 => ?_
      refine wp_block ?_
      refine wp_seq_k fun K37 hK37 => ?_
      refine c_region ?_
      obtain ⟨x41, hx42⟩ : ∃ x_, x19.2.2.2[((j : Int)).toNat]? = some x_ := get_some (by omega)
      refine s_op (o_indexF ceC_len Tryd.underlying22 ti45 e27_15 (hps _ (List.mem_of_getElem? hx20)) rfl e27_17 (by omega) hx42 fun b38 o39 hc40 => ?_)
      refine s_op (o_loadN (cs := [(S x41.1), (S x41.2)]) Tryd.underlying45 rfl ti45 rfl hH31 (seg_sub 2 rfl) hc40 ?_)
      refine s_op (o_alloc (cs := #[(S ([] : List UInt8)), (S ([] : List UInt8))]) ti45 rfl hH31 fun b43 w44 hH45 => ?_)
      refine s_eff (o_storeN (vs := [(S x41.1), (S x41.2)]) (c' := #[(S x41.1), (S x41.2)]) ti45 rfl rfl rfl rfl (by intro u hu; simp only [List.mem_cons, List.not_mem_nil, or_false] at hu; rcases hu with rfl | rfl <;> first | rfl) (by simp) (by kernel_rfl) (hH45.front 0 rfl) fun w46 hH47 => ?_)
      refine s_nil ?_
      refine t_norm (hK37 _ _ ?_)
      refine c_region ?_
      refine s_op (o_move (v := v2) e27_3 ?_)
      refine s_op (o_fieldAddr (k := 0) (fun _ => by kernel_rfl) rfl ?_)
      refine s_op (o_load1 (v := (S x41.1)) Tryd.underlying9 rfl rfl hH47 (seg_sub 0 rfl) (CellsAt.one rfl) ?_)
      refine s_op (o_buildSlice (ps := #[(0, (S x41.1))]) (cells := #[(S x41.1)]) Tryd.underlying32 ti9 (by decide) (parts1 rfl) (by kernel_rfl) hH47 fun b48 w49 hH50 => ?_)
      refine s_op (o_append Tryd.underlying32 ti9 rfl (by decide) rfl ho2 rfl (sl_lit (f := sV) (l := [x41.1]) rfl rfl (by simp)) (hH50.front 2 rfl) (seg_sub 0 rfl) (one_sV _) (by simp; omega) (by simp; omega) fun v51 s52 w54 ho53 hH55 => ?_)
      have ho53 : Own 9 1 v51 (acc2 ++ [x41.1]).length ((acc2 ++ [x41.1]).map sV) s52 := ho53.app
      refine s_op (o_assign (v := v51) rfl ?_)
      refine s_nil ?_
      refine b_norm ?_
      refine t_norm (hK36 _ _ ?_)
      refine c_region ?_
      refine s_op (o_add (a := (j : Int)) (b := 1) e27_17 rfl (w64 (by omega) (by omega)) ?_)
      refine s_op (o_move (v := (.int .i64 ((j : Int) + 1))) rfl ?_)
      refine s_nil ?_
      have hH56 : Has E w54 [s52, [Hp.one b21 (.cells #[(.int .i64 x19.1), (.int .i64 x19.2.1), x19.2.2.1] 24 (0, 0))], R] := (((hH55.front 4 rfl).front 4 rfl).front 2 rfl).first 3 rfl
      refine t_norm ⟨x19.2.2.2.length - (j + 1), _, rfl, ?_, ?_⟩
      · omega
      · exact ⟨(j + 1), v51, s52, (acc2 ++ [x41.1]), rfl, hH56, (by omega), (ho53), (by rw [hac2, List.take_add_one, show x19.2.2.2[j]? = some _ from hx42]; simp), (by simp only [List.length_append, List.length_cons, List.length_nil]; omega), e27_0, e27_2, rfl, e27_5, e27_8, e27_9, e27_10, e27_11, e27_15, e27_16, rfl⟩
    · -- not: (j : Int) < ((x19.2.2.2.length : Nat) : Int)
      refine wp_exit ?_
      refine t_exit (t_exit (x_in (?_)))
      refine b_norm ?_
      refine t_norm (hK14 _ _ ?_)
      refine c_region ?_
      refine s_op (o_add (a := (k : Int)) (b := 1) e27_10 rfl (w64 (by omega) (by omega)) ?_)
      refine s_op (o_move (v := (.int .i64 ((k : Int) + 1))) rfl ?_)
      refine s_nil ?_
      have hH57 : Has E w30 [s2, R] := ((hH31.front 2 rfl).front 1 rfl).first 2 rfl
      refine t_norm ⟨ps.length - (k + 1), _, rfl, ?_, ?_⟩
      · omega
      · exact ⟨(k + 1), v2, s2, acc2, rfl, hH57, (by omega), (ho2), (pgk_step hac (show ps[k]? = some _ from hx20) hac2 (by omega)), (by omega), e27_0, e27_2, e27_3, e27_8, e27_9, rfl⟩
  · -- not: (k : Int) < ((ps.length : Nat) : Int)
    refine wp_exit ?_
    refine t_exit (t_exit (x_in (?_)))
    refine t_norm (hK3 _ _ ?_)
    refine wp_seq_k fun K58 hK58 => ?_
    refine c_region ?_
    refine s_op (o_move (v := vo) e5_3 ?_)
    refine s_op (o_callf (vs := #[vo]) ca59 rfl (args1 rfl) (ssort_c hH9.all1 hoo (by omega)) ?_)
    rintro _ w63 ⟨s59, rfl, ho60, hX61⟩
    refine ⟨_, rfl, ?_⟩
    have hH62 : Has E w63 [s59, R] := hX61.of_all1
    refine s_nil ?_
    refine t_norm (hK58 _ _ ?_)
    refine wp_seq_k fun K64 hK64 => ?_
    refine c_region ?_
    refine s_op (o_move (v := vo) e5_3 ?_)
    refine s_op (o_callf (vs := #[vo]) ca60 rfl (args1 rfl) (scompact_c hH62.all1 ho60 (by rw [show sortB _ = sortB _ from rfl]; unfold sortB; rw [List.length_mergeSort]; omega)) ?_)
    rintro _ w70 ⟨v65, s66, rfl, ho67, hX68⟩
    refine ⟨_, rfl, ?_⟩
    have hH69 : Has E w70 [s66, R] := hX68.of_all1
    refine s_op (o_assign (v := v65) rfl ?_)
    refine s_nil ?_
    refine t_norm (hK64 _ _ ?_)
    refine wp_ret ?_
    refine c_ret1 Tryd.results23  (v := v65) rfl ?_
    have q71 : (kysS (ps.flatMap pgK)) = (Lib.compact (sortB acc)) := by (have e_ : k = ps.length := by omega); rw [e_, List.take_length] at hac; rw [← hac]; rfl
    exact ⟨_, _, rfl, (by rw [q71]; exact ho67), hH69⟩
end Go.Q
