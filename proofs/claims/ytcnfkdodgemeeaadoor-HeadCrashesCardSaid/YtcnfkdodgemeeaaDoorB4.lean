/-
  Parts of a walk: what functions of the program compute, each told by a theorem (Qyh2, Qyh3, Qyh4, QY, QYS, QDevA, QAreaA, QAreaP, QySh4, Qyh5, Qyh9, QEq, QyEq, Qyh10, Qyn2, Qyh6).
-/
import Derived.Test.YtcnfkdodgemeeaaDoorB3
import Derived.ChangeArms
import Derived.WideShapes
import Derived.DataElems
import Derived.SizedLaws
import Derived.Shelf.Strings.Trim
import Derived.Laws.StructEq
set_option linter.unusedVariables false
set_option linter.unusedSimpArgs false
set_option linter.unnecessarySimpa false
namespace Go.Q
open Go.Proofs
set_option linter.unusedVariables false
set_option maxRecDepth 100000
attribute [local irreducible] wpList OK Code.wp
set_option maxHeartbeats 4000000 in
theorem hread_c {E w : World} {R : List Hp} {s : Bs}  (hH : Has E w [R]) (hg : CellsAt R 0 0 nibV) (hs : s.length ≤ 1000000) :
    Calls Tryd.prog 17 #[(S s)] w fun e w' => e = .returned (.tuple #[(.agg #[(.int .i64 ((hdP s).1).seq), (.int .i64 ((hdP s).1).ep), (.int .i64 ((hdP s).1).cut), (.int .i64 ((hdP s).1).st), (.int .i64 ((hdP s).1).mrk)]), (.bool ((hdP s).2))]) ∧ Has E w' [R] := by
  have t1_ := take_rest_le s 8
  have t2_ := take_rest_le (takeS s 8).2.1 8
  have t3_ := take_rest_le (takeS (takeS s 8).2.1 8).2.1 8
  have t4_ := take_rest_le (takeS (takeS (takeS s 8).2.1 8).2.1 8).2.1 8
  refine c_enter (args := [(S s)]) Tryd.func17 rfl Tryd.ntmps17 (by simp) ?_
  refine wp_seq_k fun K1 hK1 => ?_
  refine c_region ?_
  refine s_op (o_alloc (cs := #[(.int .i64 0), (.int .i64 0), (.int .i64 0), (.int .i64 0), (.int .i64 0)]) ti25 rfl hH fun b2 w3 hH4 => ?_)
  refine s_op (o_assign (v := (.bool false)) rfl ?_)
  refine s_nil ?_
  refine t_norm (hK1 _ _ ?_)
  refine wp_seq_k fun K5 hK5 => ?_
  refine wp_seq_k fun K6 hK6 => ?_
  refine c_region ?_
  refine s_op (o_move (v := (S s)) rfl ?_)
  refine s_op (o_slen Tryd.underlying9 rfl ?_)
  refine s_op (o_neq (a := (s.length : Int)) (b := 64) rfl rfl ?_)
  refine s_nil ?_
  refine t_norm (hK6 _ _ ?_)
  refine c_cond rfl (fun h7 => ?_) (fun h7 => ?_)
  · -- (s.length : Int) ≠ 64
    refine wp_seq_k fun K8 hK8 => ?_
    refine c_region ?_
    refine s_op (o_sight (v := (.agg #[(.int .i64 0), (.int .i64 0), (.int .i64 0), (.int .i64 0), (.int .i64 0)])) (fun _ => by kernel_rfl) ?_)
    refine s_eff (o_storeN (vs := [(.int .i64 0), (.int .i64 0), (.int .i64 0), (.int .i64 0), (.int .i64 0)]) (c' := #[(.int .i64 0), (.int .i64 0), (.int .i64 0), (.int .i64 0), (.int .i64 0)]) ti25 rfl rfl rfl rfl (by intro u hu; simp only [List.mem_cons, List.not_mem_nil, or_false] at hu; rcases hu with rfl | rfl | rfl | rfl | rfl <;> first | rfl) (by simp) (by kernel_rfl) (hH4.front 0 rfl) fun w9 hH10 => ?_)
    refine s_op (o_assign (v := (.bool false)) rfl ?_)
    refine s_nil ?_
    refine t_norm (hK8 _ _ ?_)
    refine wp_ret ?_
    refine t_ret (c_retC2 Tryd.results17 rfl (run_loadVarN (cs := [(.int .i64 0), (.int .i64 0), (.int .i64 0), (.int .i64 0), (.int .i64 0)]) Tryd.underlying25 rfl ti25 hH10 (seg_sub 0 rfl) (CellsAt.one rfl)) (x := (.bool false)) rfl ?_)
    have hE_ := hdP_no (s := s) (.inl (by omega))
    have q11 : (hdP s).1 = (Hd.mk 0 0 0 0 0) := by exact (congrArg Prod.fst hE_).trans rfl
    have q12 : (hdP s).2 = false := by exact (congrArg Prod.snd hE_).trans rfl
    have hH13 : Has E w9 [R] := (hH10.front 1 rfl).first 1 rfl
    exact ⟨by rw [q11]; rw [q12], hH13⟩
  · -- not: (s.length : Int) ≠ 64
    refine wp_skip ?_
    refine t_norm (hK5 _ _ ?_)
    refine wp_seq_k fun K14 hK14 => ?_
    refine c_region ?_
    refine s_op (o_alloc (cs := #[(.int .i64 0), (.int .i64 0), (.int .i64 0), (.int .i64 0), (.int .i64 0)]) ti25 rfl hH4 fun b15 w16 hH17 => ?_)
    refine s_nil ?_
    refine t_norm (hK14 _ _ ?_)
    refine wp_seq_k fun K18 hK18 => ?_
    refine c_region ?_
    refine s_op (o_move (v := (S s)) rfl ?_)
    refine s_op (o_assign (v := (S s)) rfl ?_)
    refine s_nil ?_
    refine t_norm (hK18 _ _ ?_)
    refine wp_seq_k fun K19 hK19 => ?_
    refine wp_seq_k fun K20 hK20 => ?_
    refine c_region ?_
    refine s_op (o_fieldAddr (k := 0) (fun _ => by kernel_rfl) rfl ?_)
    refine s_op (o_fieldAddr (k := 1) (fun _ => by kernel_rfl) rfl ?_)
    refine s_op (o_fieldAddr (k := 2) (fun _ => by kernel_rfl) rfl ?_)
    refine s_op (o_fieldAddr (k := 3) (fun _ => by kernel_rfl) rfl ?_)
    refine s_op (o_fieldAddr (k := 4) (fun _ => by kernel_rfl) rfl ?_)
    refine s_op (o_buildSlice (ps := #[(0, (.pointer (some ⟨b15, 0, none⟩))), (1, (.pointer (some ⟨b15, 1, none⟩))), (2, (.pointer (some ⟨b15, 2, none⟩))), (3, (.pointer (some ⟨b15, 3, none⟩))), (4, (.pointer (some ⟨b15, 4, none⟩)))]) (cells := #[(.pointer (some ⟨b15, 0, none⟩)), (.pointer (some ⟨b15, 1, none⟩)), (.pointer (some ⟨b15, 2, none⟩)), (.pointer (some ⟨b15, 3, none⟩)), (.pointer (some ⟨b15, 4, none⟩))]) Tryd.underlying73 ti72 (by decide) (parts5 rfl rfl rfl rfl rfl) (by kernel_rfl) hH17 fun b21 w22 hH23 => ?_)
    refine s_op (o_lenS Tryd.underlying73 rfl (sl_lit (f := (fpV b15)) (l := [0, 1, 2, 3, 4]) (g := (0, 0)) (T := 72) rfl rfl (by simp)) ?_)
    refine s_op (o_move (v := (.int .i64 0)) rfl ?_)
    refine s_nil ?_
    refine t_norm (hK20 _ _ ?_)
    refine wp_block ?_
    refine u_loop 6 (u_round ?_)
    refine wp_seq_k fun K24 hK24 => ?_
    refine c_region ?_
    refine s_op (o_lss (a := 0) (b := ((5 : Nat) : Int)) rfl rfl ?_)
    refine s_nil ?_
    refine t_norm (hK24 _ _ ?_)
    refine wp_seq_k fun K25 hK25 => ?_
    refine c_true rfl rfl ?_
    refine wp_skip ?_
    refine t_norm (hK25 _ _ ?_)
    refine wp_seq_k fun K26 hK26 => ?_
    refine wp_block ?_
    refine wp_seq_k fun K27 hK27 => ?_
    refine c_region ?_
    refine s_op (o_index1 Tryd.underlying73 ti72 rfl (sl_lit (f := (fpV b15)) (l := [0, 1, 2, 3, 4]) (g := (0, 0)) (T := 72) rfl rfl (by simp)) rfl (by omega) (show [0, 1, 2, 3, 4][((0 : Int)).toNat]? = some 0 from rfl) fun b28 o29 hc30 => ?_)
    refine s_op (o_load1 (v := (.pointer (some ⟨b15, 0, none⟩))) Tryd.underlying72 rfl rfl hH23 (seg_sub 0 rfl) hc30 ?_)
    refine s_op (o_assign (v := (.pointer (some ⟨b15, 0, none⟩))) rfl ?_)
    refine s_nil ?_
    refine t_norm (hK27 _ _ ?_)
    refine c_region ?_
    refine s_op (o_move (v := (.pointer (some ⟨b15, 0, none⟩))) rfl ?_)
    refine s_op (o_move (v := (S s)) rfl ?_)
    refine s_op (o_callf (vs := #[(S s), (.int .i64 8)]) ca41 rfl (args2 rfl rfl) (take_c hH23.all 8 s (by omega)) ?_)
    rintro _ w33 ⟨rfl, hX31⟩
    refine ⟨_, rfl, ?_⟩
    have hH32 := hX31.of_all
    refine s_op (o_move (v := (.tuple #[(.int .i64 ((takeS s 8).1)), (S ((takeS s 8).2.1)), (.bool ((takeS s 8).2.2))])) rfl ?_)
    refine s_op (o_extract (v := (.int .i64 ((takeS s 8).1))) rfl rfl ?_)
    refine s_op (o_extract (v := (S ((takeS s 8).2.1))) rfl rfl ?_)
    refine s_op (o_extract (v := (.bool ((takeS s 8).2.2))) rfl rfl ?_)
    refine s_op (o_nilCheck rfl ?_)
    refine s_eff (o_store1 (c' := #[(.int .i64 ((takeS s 8).1)), (.int .i64 0), (.int .i64 0), (.int .i64 0), (.int .i64 0)]) ti3 rfl rfl rfl (by simp) rfl (hH32.front 1 rfl) fun w34 hH35 => ?_)
    refine s_op (o_assign (v := (S ((takeS s 8).2.1))) rfl ?_)
    refine s_nil ?_
    refine b_norm ?_
    refine t_norm (hK26 _ _ ?_)
    refine c_region ?_
    refine s_op (o_add (a := 0) (b := 1) (c := 1) rfl rfl (by decide) ?_)
    refine s_op (o_move (v := (.int .i64 1)) rfl ?_)
    refine s_nil ?_
    refine t_norm (u_round ?_)
    refine wp_seq_k fun K36 hK36 => ?_
    refine c_region ?_
    refine s_op (o_lss (a := 1) (b := ((5 : Nat) : Int)) rfl rfl ?_)
    refine s_nil ?_
    refine t_norm (hK36 _ _ ?_)
    refine wp_seq_k fun K37 hK37 => ?_
    refine c_true rfl rfl ?_
    refine wp_skip ?_
    refine t_norm (hK37 _ _ ?_)
    refine wp_seq_k fun K38 hK38 => ?_
    refine wp_block ?_
    refine wp_seq_k fun K39 hK39 => ?_
    refine c_region ?_
    refine s_op (o_index1 Tryd.underlying73 ti72 rfl (sl_lit (f := (fpV b15)) (l := [0, 1, 2, 3, 4]) (g := (0, 0)) (T := 72) rfl rfl (by simp)) rfl (by omega) (show [0, 1, 2, 3, 4][((1 : Int)).toNat]? = some 1 from rfl) fun b40 o41 hc42 => ?_)
    refine s_op (o_load1 (v := (.pointer (some ⟨b15, 1, none⟩))) Tryd.underlying72 rfl rfl hH35 (seg_sub 1 rfl) hc42 ?_)
    refine s_op (o_assign (v := (.pointer (some ⟨b15, 1, none⟩))) rfl ?_)
    refine s_nil ?_
    refine t_norm (hK39 _ _ ?_)
    refine c_region ?_
    refine s_op (o_move (v := (.pointer (some ⟨b15, 1, none⟩))) rfl ?_)
    refine s_op (o_move (v := (S ((takeS s 8).2.1))) rfl ?_)
    refine s_op (o_callf (vs := #[(S ((takeS s 8).2.1)), (.int .i64 8)]) ca41 rfl (args2 rfl rfl) (take_c hH35.all 8 ((takeS s 8).2.1) (by omega)) ?_)
    rintro _ w45 ⟨rfl, hX43⟩
    refine ⟨_, rfl, ?_⟩
    have hH44 := hX43.of_all
    refine s_op (o_move (v := (.tuple #[(.int .i64 ((takeS ((takeS s 8).2.1) 8).1)), (S ((takeS ((takeS s 8).2.1) 8).2.1)), (.bool ((takeS ((takeS s 8).2.1) 8).2.2))])) rfl ?_)
    refine s_op (o_extract (v := (.int .i64 ((takeS ((takeS s 8).2.1) 8).1))) rfl rfl ?_)
    refine s_op (o_extract (v := (S ((takeS ((takeS s 8).2.1) 8).2.1))) rfl rfl ?_)
    refine s_op (o_extract (v := (.bool ((takeS ((takeS s 8).2.1) 8).2.2))) rfl rfl ?_)
    refine s_op (o_nilCheck rfl ?_)
    refine s_eff (o_store1 (c' := #[(.int .i64 ((takeS s 8).1)), (.int .i64 ((takeS ((takeS s 8).2.1) 8).1)), (.int .i64 0), (.int .i64 0), (.int .i64 0)]) ti3 rfl rfl rfl (by simp) rfl (hH44.front 0 rfl) fun w46 hH47 => ?_)
    refine s_op (o_assign (v := (S ((takeS ((takeS s 8).2.1) 8).2.1))) rfl ?_)
    refine s_nil ?_
    refine b_norm ?_
    refine t_norm (hK38 _ _ ?_)
    refine c_region ?_
    refine s_op (o_add (a := 1) (b := 1) (c := 2) rfl rfl (by decide) ?_)
    refine s_op (o_move (v := (.int .i64 2)) rfl ?_)
    refine s_nil ?_
    refine t_norm (u_round ?_)
    refine wp_seq_k fun K48 hK48 => ?_
    refine c_region ?_
    refine s_op (o_lss (a := 2) (b := ((5 : Nat) : Int)) rfl rfl ?_)
    refine s_nil ?_
    refine t_norm (hK48 _ _ ?_)
    refine wp_seq_k fun K49 hK49 => ?_
    refine c_true rfl rfl ?_
    refine wp_skip ?_
    refine t_norm (hK49 _ _ ?_)
    refine wp_seq_k fun K50 hK50 => ?_
    refine wp_block ?_
    refine wp_seq_k fun K51 hK51 => ?_
    refine c_region ?_
    refine s_op (o_index1 Tryd.underlying73 ti72 rfl (sl_lit (f := (fpV b15)) (l := [0, 1, 2, 3, 4]) (g := (0, 0)) (T := 72) rfl rfl (by simp)) rfl (by omega) (show [0, 1, 2, 3, 4][((2 : Int)).toNat]? = some 2 from rfl) fun b52 o53 hc54 => ?_)
    refine s_op (o_load1 (v := (.pointer (some ⟨b15, 2, none⟩))) Tryd.underlying72 rfl rfl hH47 (seg_sub 1 rfl) hc54 ?_)
    refine s_op (o_assign (v := (.pointer (some ⟨b15, 2, none⟩))) rfl ?_)
    refine s_nil ?_
    refine t_norm (hK51 _ _ ?_)
    refine c_region ?_
    refine s_op (o_move (v := (.pointer (some ⟨b15, 2, none⟩))) rfl ?_)
    refine s_op (o_move (v := (S ((takeS ((takeS s 8).2.1) 8).2.1))) rfl ?_)
    refine s_op (o_callf (vs := #[(S ((takeS ((takeS s 8).2.1) 8).2.1)), (.int .i64 8)]) ca41 rfl (args2 rfl rfl) (take_c hH47.all 8 ((takeS ((takeS s 8).2.1) 8).2.1) (by omega)) ?_)
    rintro _ w57 ⟨rfl, hX55⟩
    refine ⟨_, rfl, ?_⟩
    have hH56 := hX55.of_all
    refine s_op (o_move (v := (.tuple #[(.int .i64 ((takeS ((takeS ((takeS s 8).2.1) 8).2.1) 8).1)), (S ((takeS ((takeS ((takeS s 8).2.1) 8).2.1) 8).2.1)), (.bool ((takeS ((takeS ((takeS s 8).2.1) 8).2.1) 8).2.2))])) rfl ?_)
    refine s_op (o_extract (v := (.int .i64 ((takeS ((takeS ((takeS s 8).2.1) 8).2.1) 8).1))) rfl rfl ?_)
    refine s_op (o_extract (v := (S ((takeS ((takeS ((takeS s 8).2.1) 8).2.1) 8).2.1))) rfl rfl ?_)
    refine s_op (o_extract (v := (.bool ((takeS ((takeS ((takeS s 8).2.1) 8).2.1) 8).2.2))) rfl rfl ?_)
    refine s_op (o_nilCheck rfl ?_)
    refine s_eff (o_store1 (c' := #[(.int .i64 ((takeS s 8).1)), (.int .i64 ((takeS ((takeS s 8).2.1) 8).1)), (.int .i64 ((takeS ((takeS ((takeS s 8).2.1) 8).2.1) 8).1)), (.int .i64 0), (.int .i64 0)]) ti3 rfl rfl rfl (by simp) rfl (hH56.front 0 rfl) fun w58 hH59 => ?_)
    refine s_op (o_assign (v := (S ((takeS ((takeS ((takeS s 8).2.1) 8).2.1) 8).2.1))) rfl ?_)
    refine s_nil ?_
    refine b_norm ?_
    refine t_norm (hK50 _ _ ?_)
    refine c_region ?_
    refine s_op (o_add (a := 2) (b := 1) (c := 3) rfl rfl (by decide) ?_)
    refine s_op (o_move (v := (.int .i64 3)) rfl ?_)
    refine s_nil ?_
    refine t_norm (u_round ?_)
    refine wp_seq_k fun K60 hK60 => ?_
    refine c_region ?_
    refine s_op (o_lss (a := 3) (b := ((5 : Nat) : Int)) rfl rfl ?_)
    refine s_nil ?_
    refine t_norm (hK60 _ _ ?_)
    refine wp_seq_k fun K61 hK61 => ?_
    refine c_true rfl rfl ?_
    refine wp_skip ?_
    refine t_norm (hK61 _ _ ?_)
    refine wp_seq_k fun K62 hK62 => ?_
    refine wp_block ?_
    refine wp_seq_k fun K63 hK63 => ?_
    refine c_region ?_
    refine s_op (o_index1 Tryd.underlying73 ti72 rfl (sl_lit (f := (fpV b15)) (l := [0, 1, 2, 3, 4]) (g := (0, 0)) (T := 72) rfl rfl (by simp)) rfl (by omega) (show [0, 1, 2, 3, 4][((3 : Int)).toNat]? = some 3 from rfl) fun b64 o65 hc66 => ?_)
    refine s_op (o_load1 (v := (.pointer (some ⟨b15, 3, none⟩))) Tryd.underlying72 rfl rfl hH59 (seg_sub 1 rfl) hc66 ?_)
    refine s_op (o_assign (v := (.pointer (some ⟨b15, 3, none⟩))) rfl ?_)
    refine s_nil ?_
    refine t_norm (hK63 _ _ ?_)
    refine c_region ?_
    refine s_op (o_move (v := (.pointer (some ⟨b15, 3, none⟩))) rfl ?_)
    refine s_op (o_move (v := (S ((takeS ((takeS ((takeS s 8).2.1) 8).2.1) 8).2.1))) rfl ?_)
    refine s_op (o_callf (vs := #[(S ((takeS ((takeS ((takeS s 8).2.1) 8).2.1) 8).2.1)), (.int .i64 8)]) ca41 rfl (args2 rfl rfl) (take_c hH59.all 8 ((takeS ((takeS ((takeS s 8).2.1) 8).2.1) 8).2.1) (by omega)) ?_)
    rintro _ w69 ⟨rfl, hX67⟩
    refine ⟨_, rfl, ?_⟩
    have hH68 := hX67.of_all
    refine s_op (o_move (v := (.tuple #[(.int .i64 ((takeS ((takeS ((takeS ((takeS s 8).2.1) 8).2.1) 8).2.1) 8).1)), (S ((takeS ((takeS ((takeS ((takeS s 8).2.1) 8).2.1) 8).2.1) 8).2.1)), (.bool ((takeS ((takeS ((takeS ((takeS s 8).2.1) 8).2.1) 8).2.1) 8).2.2))])) rfl ?_)
    refine s_op (o_extract (v := (.int .i64 ((takeS ((takeS ((takeS ((takeS s 8).2.1) 8).2.1) 8).2.1) 8).1))) rfl rfl ?_)
    refine s_op (o_extract (v := (S ((takeS ((takeS ((takeS ((takeS s 8).2.1) 8).2.1) 8).2.1) 8).2.1))) rfl rfl ?_)
    refine s_op (o_extract (v := (.bool ((takeS ((takeS ((takeS ((takeS s 8).2.1) 8).2.1) 8).2.1) 8).2.2))) rfl rfl ?_)
    refine s_op (o_nilCheck rfl ?_)
    refine s_eff (o_store1 (c' := #[(.int .i64 ((takeS s 8).1)), (.int .i64 ((takeS ((takeS s 8).2.1) 8).1)), (.int .i64 ((takeS ((takeS ((takeS s 8).2.1) 8).2.1) 8).1)), (.int .i64 ((takeS ((takeS ((takeS ((takeS s 8).2.1) 8).2.1) 8).2.1) 8).1)), (.int .i64 0)]) ti3 rfl rfl rfl (by simp) rfl (hH68.front 0 rfl) fun w70 hH71 => ?_)
    refine s_op (o_assign (v := (S ((takeS ((takeS ((takeS ((takeS s 8).2.1) 8).2.1) 8).2.1) 8).2.1))) rfl ?_)
    refine s_nil ?_
    refine b_norm ?_
    refine t_norm (hK62 _ _ ?_)
    refine c_region ?_
    refine s_op (o_add (a := 3) (b := 1) (c := 4) rfl rfl (by decide) ?_)
    refine s_op (o_move (v := (.int .i64 4)) rfl ?_)
    refine s_nil ?_
    refine t_norm (u_round ?_)
    refine wp_seq_k fun K72 hK72 => ?_
    refine c_region ?_
    refine s_op (o_lss (a := 4) (b := ((5 : Nat) : Int)) rfl rfl ?_)
    refine s_nil ?_
    refine t_norm (hK72 _ _ ?_)
    refine wp_seq_k fun K73 hK73 => ?_
    refine c_true rfl rfl ?_
    refine wp_skip ?_
    refine t_norm (hK73 _ _ ?_)
    refine wp_seq_k fun K74 hK74 => ?_
    refine wp_block ?_
    refine wp_seq_k fun K75 hK75 => ?_
    refine c_region ?_
    refine s_op (o_index1 Tryd.underlying73 ti72 rfl (sl_lit (f := (fpV b15)) (l := [0, 1, 2, 3, 4]) (g := (0, 0)) (T := 72) rfl rfl (by simp)) rfl (by omega) (show [0, 1, 2, 3, 4][((4 : Int)).toNat]? = some 4 from rfl) fun b76 o77 hc78 => ?_)
    refine s_op (o_load1 (v := (.pointer (some ⟨b15, 4, none⟩))) Tryd.underlying72 rfl rfl hH71 (seg_sub 1 rfl) hc78 ?_)
    refine s_op (o_assign (v := (.pointer (some ⟨b15, 4, none⟩))) rfl ?_)
    refine s_nil ?_
    refine t_norm (hK75 _ _ ?_)
    refine c_region ?_
    refine s_op (o_move (v := (.pointer (some ⟨b15, 4, none⟩))) rfl ?_)
    refine s_op (o_move (v := (S ((takeS ((takeS ((takeS ((takeS s 8).2.1) 8).2.1) 8).2.1) 8).2.1))) rfl ?_)
    refine s_op (o_callf (vs := #[(S ((takeS ((takeS ((takeS ((takeS s 8).2.1) 8).2.1) 8).2.1) 8).2.1)), (.int .i64 8)]) ca41 rfl (args2 rfl rfl) (take_c hH71.all 8 ((takeS ((takeS ((takeS ((takeS s 8).2.1) 8).2.1) 8).2.1) 8).2.1) (by omega)) ?_)
    rintro _ w81 ⟨rfl, hX79⟩
    refine ⟨_, rfl, ?_⟩
    have hH80 := hX79.of_all
    refine s_op (o_move (v := (.tuple #[(.int .i64 ((takeS ((takeS ((takeS ((takeS ((takeS s 8).2.1) 8).2.1) 8).2.1) 8).2.1) 8).1)), (S ((takeS ((takeS ((takeS ((takeS ((takeS s 8).2.1) 8).2.1) 8).2.1) 8).2.1) 8).2.1)), (.bool ((takeS ((takeS ((takeS ((takeS ((takeS s 8).2.1) 8).2.1) 8).2.1) 8).2.1) 8).2.2))])) rfl ?_)
    refine s_op (o_extract (v := (.int .i64 ((takeS ((takeS ((takeS ((takeS ((takeS s 8).2.1) 8).2.1) 8).2.1) 8).2.1) 8).1))) rfl rfl ?_)
    refine s_op (o_extract (v := (S ((takeS ((takeS ((takeS ((takeS ((takeS s 8).2.1) 8).2.1) 8).2.1) 8).2.1) 8).2.1))) rfl rfl ?_)
    refine s_op (o_extract (v := (.bool ((takeS ((takeS ((takeS ((takeS ((takeS s 8).2.1) 8).2.1) 8).2.1) 8).2.1) 8).2.2))) rfl rfl ?_)
    refine s_op (o_nilCheck rfl ?_)
    refine s_eff (o_store1 (c' := #[(.int .i64 ((takeS s 8).1)), (.int .i64 ((takeS ((takeS s 8).2.1) 8).1)), (.int .i64 ((takeS ((takeS ((takeS s 8).2.1) 8).2.1) 8).1)), (.int .i64 ((takeS ((takeS ((takeS ((takeS s 8).2.1) 8).2.1) 8).2.1) 8).1)), (.int .i64 ((takeS ((takeS ((takeS ((takeS ((takeS s 8).2.1) 8).2.1) 8).2.1) 8).2.1) 8).1))]) ti3 rfl rfl rfl (by simp) rfl (hH80.front 0 rfl) fun w82 hH83 => ?_)
    refine s_op (o_assign (v := (S ((takeS ((takeS ((takeS ((takeS ((takeS s 8).2.1) 8).2.1) 8).2.1) 8).2.1) 8).2.1))) rfl ?_)
    refine s_nil ?_
    refine b_norm ?_
    refine t_norm (hK74 _ _ ?_)
    refine c_region ?_
    refine s_op (o_add (a := 4) (b := 1) (c := 5) rfl rfl (by decide) ?_)
    refine s_op (o_move (v := (.int .i64 5)) rfl ?_)
    refine s_nil ?_
    refine t_norm (u_round ?_)
    refine wp_seq_k fun K84 hK84 => ?_
    refine c_region ?_
    refine s_op (o_lss (a := 5) (b := ((5 : Nat) : Int)) rfl rfl ?_)
    refine s_nil ?_
    refine t_norm (hK84 _ _ ?_)
    refine wp_seq_k fun K85 hK85 => ?_
    refine c_false rfl rfl ?_
    refine wp_exit ?_
    refine t_exit (t_exit (x_in (?_)))
    refine t_norm (hK19 _ _ ?_)
    refine wp_seq_k fun K86 hK86 => ?_
    refine wp_seq_k fun K87 hK87 => ?_
    refine c_region ?_
    refine s_op (o_loadN (cs := [(.int .i64 ((takeS s 8).1)), (.int .i64 ((takeS ((takeS s 8).2.1) 8).1)), (.int .i64 ((takeS ((takeS ((takeS s 8).2.1) 8).2.1) 8).1)), (.int .i64 ((takeS ((takeS ((takeS ((takeS s 8).2.1) 8).2.1) 8).2.1) 8).1)), (.int .i64 ((takeS ((takeS ((takeS ((takeS ((takeS s 8).2.1) 8).2.1) 8).2.1) 8).2.1) 8).1))]) Tryd.underlying25 rfl ti25 rfl hH83 (seg_sub 0 rfl) (CellsAt.one rfl) ?_)
    refine s_op (o_callf (vs := #[(.agg #[(.int .i64 ((takeS s 8).1)), (.int .i64 ((takeS ((takeS s 8).2.1) 8).1)), (.int .i64 ((takeS ((takeS ((takeS s 8).2.1) 8).2.1) 8).1)), (.int .i64 ((takeS ((takeS ((takeS ((takeS s 8).2.1) 8).2.1) 8).2.1) 8).1)), (.int .i64 ((takeS ((takeS ((takeS ((takeS ((takeS s 8).2.1) 8).2.1) 8).2.1) 8).2.1) 8).1))])]) ca14 rfl (args1 rfl) (hlaid_c (h := (Hd.mk ((takeS s 8).1) ((takeS ((takeS s 8).2.1) 8).1) ((takeS ((takeS ((takeS s 8).2.1) 8).2.1) 8).1) ((takeS ((takeS ((takeS ((takeS s 8).2.1) 8).2.1) 8).2.1) 8).1) ((takeS ((takeS ((takeS ((takeS ((takeS s 8).2.1) 8).2.1) 8).2.1) 8).2.1) 8).1))) hH83.all (hg.mono (seg_sub 3 rfl))) ?_)
    rintro _ w90 ⟨rfl, hX88⟩
    refine ⟨_, rfl, ?_⟩
    have hH89 := hX88.of_all
    refine s_op (o_move (v := (S s)) rfl ?_)
    refine s_op (o_sneq (a := (hdL (Hd.mk ((takeS s 8).1) ((takeS ((takeS s 8).2.1) 8).1) ((takeS ((takeS ((takeS s 8).2.1) 8).2.1) 8).1) ((takeS ((takeS ((takeS ((takeS s 8).2.1) 8).2.1) 8).2.1) 8).1) ((takeS ((takeS ((takeS ((takeS ((takeS s 8).2.1) 8).2.1) 8).2.1) 8).2.1) 8).1)))) (b := s) rfl rfl ?_)
    refine s_nil ?_
    refine t_norm (hK87 _ _ ?_)
    refine c_cond rfl (fun h91 => ?_) (fun h91 => ?_)
    · -- (hdL (Hd.mk ((takeS s 8).1) ((takeS ((takeS s 8).2.1) 8).1) ((takeS ((takeS ((takeS s 8).2.1) 8).2.1) 8).1) ((takeS ((takeS ((takeS ((takeS s 8).2.1) 8).2.1) 8).2.1) 8).1) ((takeS ((takeS ((takeS ((takeS ((takeS s 8).2.1) 8).2.1) 8).2.1) 8).2.1) 8).1))) ≠ s
      refine wp_seq_k fun K92 hK92 => ?_
      refine c_region ?_
      refine s_op (o_sight (v := (.agg #[(.int .i64 0), (.int .i64 0), (.int .i64 0), (.int .i64 0), (.int .i64 0)])) (fun _ => by kernel_rfl) ?_)
      refine s_eff (o_storeN (vs := [(.int .i64 0), (.int .i64 0), (.int .i64 0), (.int .i64 0), (.int .i64 0)]) (c' := #[(.int .i64 0), (.int .i64 0), (.int .i64 0), (.int .i64 0), (.int .i64 0)]) ti25 rfl rfl rfl rfl (by intro u hu; simp only [List.mem_cons, List.not_mem_nil, or_false] at hu; rcases hu with rfl | rfl | rfl | rfl | rfl <;> first | rfl) (by simp) (by kernel_rfl) (hH89.front 2 rfl) fun w93 hH94 => ?_)
      refine s_op (o_assign (v := (.bool false)) rfl ?_)
      refine s_nil ?_
      refine t_norm (hK92 _ _ ?_)
      refine wp_ret ?_
      refine t_ret (c_retC2 Tryd.results17 rfl (run_loadVarN (cs := [(.int .i64 0), (.int .i64 0), (.int .i64 0), (.int .i64 0), (.int .i64 0)]) Tryd.underlying25 rfl ti25 hH94 (seg_sub 0 rfl) (CellsAt.one rfl)) (x := (.bool false)) rfl ?_)
      have hE_ := hdP_no (s := s) (.inr h91)
      have q95 : (hdP s).1 = (Hd.mk 0 0 0 0 0) := by exact (congrArg Prod.fst hE_).trans rfl
      have q96 : (hdP s).2 = false := by exact (congrArg Prod.snd hE_).trans rfl
      have hH97 : Has E w93 [R] := (hH94.front 3 rfl).first 1 rfl
      exact ⟨by rw [q95]; rw [q96], hH97⟩
    · -- not: (hdL (Hd.mk ((takeS s 8).1) ((takeS ((takeS s 8).2.1) 8).1) ((takeS ((takeS ((takeS s 8).2.1) 8).2.1) 8).1) ((takeS ((takeS ((takeS ((takeS s 8).2.1) 8).2.1) 8).2.1) 8).1) ((takeS ((takeS ((takeS ((takeS ((takeS s 8).2.1) 8).2.1) 8).2.1) 8).2.1) 8).1))) ≠ s
      refine wp_skip ?_
      refine t_norm (hK86 _ _ ?_)
      refine wp_seq_k fun K98 hK98 => ?_
      refine c_region ?_
      refine s_op (o_loadN (cs := [(.int .i64 ((takeS s 8).1)), (.int .i64 ((takeS ((takeS s 8).2.1) 8).1)), (.int .i64 ((takeS ((takeS ((takeS s 8).2.1) 8).2.1) 8).1)), (.int .i64 ((takeS ((takeS ((takeS ((takeS s 8).2.1) 8).2.1) 8).2.1) 8).1)), (.int .i64 ((takeS ((takeS ((takeS ((takeS ((takeS s 8).2.1) 8).2.1) 8).2.1) 8).2.1) 8).1))]) Tryd.underlying25 rfl ti25 rfl hH89 (seg_sub 0 rfl) (CellsAt.one rfl) ?_)
      refine s_eff (o_storeN (vs := [(.int .i64 ((takeS s 8).1)), (.int .i64 ((takeS ((takeS s 8).2.1) 8).1)), (.int .i64 ((takeS ((takeS ((takeS s 8).2.1) 8).2.1) 8).1)), (.int .i64 ((takeS ((takeS ((takeS ((takeS s 8).2.1) 8).2.1) 8).2.1) 8).1)), (.int .i64 ((takeS ((takeS ((takeS ((takeS ((takeS s 8).2.1) 8).2.1) 8).2.1) 8).2.1) 8).1))]) (c' := #[(.int .i64 ((takeS s 8).1)), (.int .i64 ((takeS ((takeS s 8).2.1) 8).1)), (.int .i64 ((takeS ((takeS ((takeS s 8).2.1) 8).2.1) 8).1)), (.int .i64 ((takeS ((takeS ((takeS ((takeS s 8).2.1) 8).2.1) 8).2.1) 8).1)), (.int .i64 ((takeS ((takeS ((takeS ((takeS ((takeS s 8).2.1) 8).2.1) 8).2.1) 8).2.1) 8).1))]) ti25 rfl rfl rfl rfl (by intro u hu; simp only [List.mem_cons, List.not_mem_nil, or_false] at hu; rcases hu with rfl | rfl | rfl | rfl | rfl <;> first | rfl) (by simp) (by kernel_rfl) (hH89.front 2 rfl) fun w99 hH100 => ?_)
      refine s_op (o_assign (v := (.bool true)) rfl ?_)
      refine s_nil ?_
      refine t_norm (hK98 _ _ ?_)
      refine wp_ret ?_
      refine c_retC2 Tryd.results17 rfl (run_loadVarN (cs := [(.int .i64 ((takeS s 8).1)), (.int .i64 ((takeS ((takeS s 8).2.1) 8).1)), (.int .i64 ((takeS ((takeS ((takeS s 8).2.1) 8).2.1) 8).1)), (.int .i64 ((takeS ((takeS ((takeS ((takeS s 8).2.1) 8).2.1) 8).2.1) 8).1)), (.int .i64 ((takeS ((takeS ((takeS ((takeS ((takeS s 8).2.1) 8).2.1) 8).2.1) 8).2.1) 8).1))]) Tryd.underlying25 rfl ti25 hH100 (seg_sub 0 rfl) (CellsAt.one rfl)) (x := (.bool true)) rfl ?_
      have hE_ := hdP_yes (s := s) (by omega) (Classical.not_not.1 h91)
      have q101 : (hdP s).1 = (Hd.mk ((takeS s 8).1) ((takeS ((takeS s 8).2.1) 8).1) ((takeS ((takeS ((takeS s 8).2.1) 8).2.1) 8).1) ((takeS ((takeS ((takeS ((takeS s 8).2.1) 8).2.1) 8).2.1) 8).1) ((takeS ((takeS ((takeS ((takeS ((takeS s 8).2.1) 8).2.1) 8).2.1) 8).2.1) 8).1)) := by exact (congrArg Prod.fst hE_).trans rfl
      have q102 : (hdP s).2 = true := by exact (congrArg Prod.snd hE_).trans rfl
      have hH103 : Has E w99 [R] := (hH100.front 3 rfl).first 1 rfl
      exact ⟨by rw [q101]; rw [q102], hH103⟩
end Go.Q
namespace Go.Q
open Go.Proofs
set_option linter.unusedVariables false
set_option maxRecDepth 100000
attribute [local irreducible] wpList OK Code.wp
set_option maxHeartbeats 4000000 in
theorem sectors_nil {E w : World} {R : List Hp} (hH : Has E w [R]) :
    Calls Tryd.prog 33 #[(.pointer none)] w fun e w' => e = .returned (.int .i64 0) ∧ Has E w' [R] := by
  refine c_enter (args := [(.pointer none)]) Tryd.func33 rfl Tryd.ntmps33 (by simp) ?_
  refine wp_seq_k fun K1 hK1 => ?_
  refine c_region ?_
  refine s_op (o_assign (v := (.int .i64 0)) rfl ?_)
  refine s_nil ?_
  refine t_norm (hK1 _ _ ?_)
  refine wp_seq_k fun K2 hK2 => ?_
  refine wp_seq_k fun K3 hK3 => ?_
  refine c_region ?_
  refine s_op (o_move (v := (.pointer none)) rfl ?_)
  refine s_op (o_pnil (p := none) Tryd.underlying30 rfl rfl ?_)
  refine s_nil ?_
  refine t_norm (hK3 _ _ ?_)
  refine c_true rfl rfl ?_
  refine wp_seq_k fun K4 hK4 => ?_
  refine c_region ?_
  refine s_op (o_assign (v := (.int .i64 0)) rfl ?_)
  refine s_nil ?_
  refine t_norm (hK4 _ _ ?_)
  refine wp_ret ?_
  refine t_ret (c_ret1 Tryd.results33  (v := (.int .i64 0)) rfl ?_)
  exact ⟨rfl, hH⟩
set_option maxHeartbeats 4000000 in
theorem don_nil {E w : World} {R : List Hp} (hH : Has E w [R]) :
    Calls Tryd.prog 28 #[(.pointer none)] w fun e w' => e = .returned (.bool false) ∧ Has E w' [R] := by
  refine c_enter (args := [(.pointer none)]) Tryd.func28 rfl Tryd.ntmps28 (by simp) ?_
  refine wp_seq_k fun K1 hK1 => ?_
  refine c_region ?_
  refine s_op (o_assign (v := (.bool false)) rfl ?_)
  refine s_nil ?_
  refine t_norm (hK1 _ _ ?_)
  refine wp_seq_k fun K2 hK2 => ?_
  refine c_region ?_
  refine s_op (o_move (v := (.pointer none)) rfl ?_)
  refine s_op (o_pnnil (p := none) Tryd.underlying30 rfl rfl ?_)
  refine s_op (o_move (v := (.bool false)) rfl ?_)
  refine s_off (b' := false) 5 rfl rfl rfl ?_
  refine s_off (b' := false) 5 rfl rfl rfl ?_
  refine s_off (b' := false) 5 rfl rfl rfl ?_
  refine s_off (b' := false) 5 rfl rfl rfl ?_
  refine s_off (b' := false) 5 rfl rfl rfl ?_
  refine s_op (o_pick_f (u := (.bool false)) rfl rfl ?_)
  refine s_op (o_assign (v := (.bool false)) rfl ?_)
  refine s_nil ?_
  refine t_norm (hK2 _ _ ?_)
  refine wp_ret ?_
  refine c_ret1 Tryd.results28  (v := (.bool false)) rfl ?_
  exact ⟨rfl, hH⟩
set_option maxHeartbeats 4000000 in
theorem there_nil {E w : World} {R : List Hp} (hH : Has E w [R]) (x : Int) :
    Calls Tryd.prog 15 #[(.pointer none), (.int .i64 x)] w fun e w' => e = .returned (.int .i64 1) ∧ Has E w' [R] := by
  refine c_enter (args := [(.pointer none), (.int .i64 x)]) Tryd.func15 rfl Tryd.ntmps15 (by simp) ?_
  refine wp_seq_k fun K1 hK1 => ?_
  refine c_region ?_
  refine s_op (o_assign (v := (.int .i64 0)) rfl ?_)
  refine s_nil ?_
  refine t_norm (hK1 _ _ ?_)
  refine wp_seq_k fun K2 hK2 => ?_
  refine wp_block ?_
  refine wp_seq_k fun K3 hK3 => ?_
  refine c_region ?_
  refine s_op (o_move (v := (.int .i64 x)) rfl ?_)
  refine s_op (o_lss (a := x) (b := 0) rfl rfl ?_)
  refine s_op (o_move (v := (.bool (decide (x < 0)))) rfl ?_)
  by_cases h4 : x < 0
  · -- x < 0
    refine s_off (b' := true) 8 rfl (congrArg Value.bool (decide_eq_true h4)) rfl ?_
    refine s_off (b' := true) 8 rfl (congrArg Value.bool (decide_eq_true h4)) rfl ?_
    refine s_off (b' := true) 8 rfl (congrArg Value.bool (decide_eq_true h4)) rfl ?_
    refine s_off (b' := true) 8 rfl (congrArg Value.bool (decide_eq_true h4)) rfl ?_
    refine s_off (b' := true) 8 rfl (congrArg Value.bool (decide_eq_true h4)) rfl ?_
    refine s_op (o_pick_t (u := (.bool true)) ((rfl : _ = _).trans (congrArg Value.bool (decide_eq_true h4))) rfl ?_)
    refine s_op (o_assign (v := (.bool true)) rfl ?_)
    refine s_nil ?_
    refine t_norm (hK3 _ _ ?_)
    refine c_true rfl rfl ?_
    refine wp_seq_k fun K5 hK5 => ?_
    refine c_region ?_
    refine s_op (o_assign (v := (.int .i64 1)) rfl ?_)
    refine s_nil ?_
    refine t_norm (hK5 _ _ ?_)
    refine wp_ret ?_
    refine b_ret (t_ret (c_ret1 Tryd.results15  (v := (.int .i64 1)) rfl ?_))
    exact ⟨rfl, hH⟩
  · -- not: x < 0
    refine s_on 8 rfl (congrArg Value.bool (decide_eq_false h4)) (o_move (v := (.int .i64 x)) rfl ?_)
    refine s_on 8 rfl (congrArg Value.bool (decide_eq_false h4)) (o_move (v := (.pointer none)) rfl ?_)
    refine s_on 8 rfl (congrArg Value.bool (decide_eq_false h4)) (o_callf (vs := #[(.pointer none)]) ca33 rfl (args1 rfl) (sectors_nil hH.all) ?_)
    rintro _ w8 ⟨rfl, hX6⟩
    refine ⟨_, rfl, ?_⟩
    have hH7 := hX6.of_all
    refine s_on 8 rfl (congrArg Value.bool (decide_eq_false h4)) (o_sub (a := (0 : Int)) (b := 1) rfl rfl (w64 (by omega) (by omega)) ?_)
    refine s_on 8 rfl (congrArg Value.bool (decide_eq_false h4)) (o_geq (a := x) (b := (0 : Int) - 1) rfl rfl ?_)
    refine s_op (o_pick_f (u := (.bool (decide ((0 : Int) - 1 ≤ x)))) ((rfl : _ = _).trans (congrArg Value.bool (decide_eq_false h4))) rfl ?_)
    refine s_op (o_assign (v := (.bool (decide ((0 : Int) - 1 ≤ x)))) rfl ?_)
    refine s_nil ?_
    refine t_norm (hK3 _ _ ?_)
    refine c_cond rfl (fun h9 => ?_) (fun h9 => ?_)
    · -- (0 : Int) - 1 ≤ x
      refine wp_seq_k fun K10 hK10 => ?_
      refine c_region ?_
      refine s_op (o_assign (v := (.int .i64 1)) rfl ?_)
      refine s_nil ?_
      refine t_norm (hK10 _ _ ?_)
      refine wp_ret ?_
      refine b_ret (t_ret (c_ret1 Tryd.results15  (v := (.int .i64 1)) rfl ?_))
      exact ⟨rfl, hH7⟩
    · -- not: (0 : Int) - 1 ≤ x
      refine wp_seq_k fun K11 hK11 => ?_
      refine c_region ?_
      refine s_op (o_move (v := (.pointer none)) rfl ?_)
      refine s_op (o_callf (vs := #[(.pointer none)]) ca28 rfl (args1 rfl) (don_nil hH7.all) ?_)
      rintro _ w14 ⟨rfl, hX12⟩
      refine ⟨_, rfl, ?_⟩
      have hH13 := hX12.of_all
      refine s_op (o_not rfl ?_)
      refine s_op (o_assign (v := (.bool true)) rfl ?_)
      refine s_nil ?_
      refine t_norm (hK11 _ _ ?_)
      refine c_true rfl rfl ?_
      refine wp_seq_k fun K15 hK15 => ?_
      refine c_region ?_
      refine s_op (o_assign (v := (.int .i64 6)) rfl ?_)
      refine s_nil ?_
      refine t_norm (hK15 _ _ ?_)
      refine wp_ret ?_
      refine b_ret (t_ret (c_ret1 Tryd.results15  (v := (.int .i64 6)) rfl ?_))
      exfalso; omega
set_option maxHeartbeats 4000000 in
theorem there_c {E w : World} {R sg : List Hp} {pb db : Nat} {p : Pw} {la : List Bs} (hH : Has E w [sg, [Hp.one pb (.cells #[(.bool p.off), (.bool p.armed), (.int .i64 p.left), (.int .i64 p.uses)] 50 (0, 0))], R]) (hd : DevAt pb sg db la []) (x : Int) :
    Calls Tryd.prog 15 #[(.pointer (some ⟨db, 0, none⟩)), (.int .i64 x)] w fun e w' => e = .returned (.int .i64 (thE p la.length x)) ∧ Has E w' [sg, [Hp.one pb (.cells #[(.bool p.off), (.bool p.armed), (.int .i64 p.left), (.int .i64 p.uses)] 50 (0, 0))], R] := by
  have hln_ : la.length ≤ 9223372036854775807 := by obtain ⟨_, _, _, _, _, _, h_, _⟩ := hd; exact h_.sl.le
  refine c_enter (args := [(.pointer (some ⟨db, 0, none⟩)), (.int .i64 x)]) Tryd.func15 rfl Tryd.ntmps15 (by simp) ?_
  refine wp_seq_k fun K1 hK1 => ?_
  refine c_region ?_
  refine s_op (o_assign (v := (.int .i64 0)) rfl ?_)
  refine s_nil ?_
  refine t_norm (hK1 _ _ ?_)
  refine wp_seq_k fun K2 hK2 => ?_
  refine wp_block ?_
  refine wp_seq_k fun K3 hK3 => ?_
  refine c_region ?_
  refine s_op (o_move (v := (.int .i64 x)) rfl ?_)
  refine s_op (o_lss (a := x) (b := 0) rfl rfl ?_)
  refine s_op (o_move (v := (.bool (decide (x < 0)))) rfl ?_)
  by_cases h4 : x < 0
  · -- x < 0
    refine s_off (b' := true) 8 rfl (congrArg Value.bool (decide_eq_true h4)) rfl ?_
    refine s_off (b' := true) 8 rfl (congrArg Value.bool (decide_eq_true h4)) rfl ?_
    refine s_off (b' := true) 8 rfl (congrArg Value.bool (decide_eq_true h4)) rfl ?_
    refine s_off (b' := true) 8 rfl (congrArg Value.bool (decide_eq_true h4)) rfl ?_
    refine s_off (b' := true) 8 rfl (congrArg Value.bool (decide_eq_true h4)) rfl ?_
    refine s_op (o_pick_t (u := (.bool true)) ((rfl : _ = _).trans (congrArg Value.bool (decide_eq_true h4))) rfl ?_)
    refine s_op (o_assign (v := (.bool true)) rfl ?_)
    refine s_nil ?_
    refine t_norm (hK3 _ _ ?_)
    refine c_true rfl rfl ?_
    refine wp_seq_k fun K5 hK5 => ?_
    refine c_region ?_
    refine s_op (o_assign (v := (.int .i64 1)) rfl ?_)
    refine s_nil ?_
    refine t_norm (hK5 _ _ ?_)
    refine wp_ret ?_
    refine b_ret (t_ret (c_ret1 Tryd.results15  (v := (.int .i64 1)) rfl ?_))
    exact ⟨by rw [thE_arg (by omega)], hH⟩
  · -- not: x < 0
    refine s_on 8 rfl (congrArg Value.bool (decide_eq_false h4)) (o_move (v := (.int .i64 x)) rfl ?_)
    refine s_on 8 rfl (congrArg Value.bool (decide_eq_false h4)) (o_move (v := (.pointer (some ⟨db, 0, none⟩))) rfl ?_)
    refine s_on 8 rfl (congrArg Value.bool (decide_eq_false h4)) (o_callf (vs := #[(.pointer (some ⟨db, 0, none⟩))]) ca33 rfl (args1 rfl) (sectors_d (p := p) (la := la) (lo := ([] : List (Int × Bs))) ((hH.front 1 rfl).front 1 rfl).all2 hd ) ?_)
    rintro _ w8 ⟨rfl, hX6⟩
    refine ⟨_, rfl, ?_⟩
    have hH7 : Has E w8 [sg, [Hp.one pb (.cells #[(.bool p.off), (.bool p.armed), (.int .i64 p.left), (.int .i64 p.uses)] 50 (0, 0))], R] := hX6.of_all2
    refine s_on 8 rfl (congrArg Value.bool (decide_eq_false h4)) (o_sub (a := ((la.length : Nat) : Int)) (b := 1) rfl rfl (w64 (by omega) (by omega)) ?_)
    refine s_on 8 rfl (congrArg Value.bool (decide_eq_false h4)) (o_geq (a := x) (b := ((la.length : Nat) : Int) - 1) rfl rfl ?_)
    refine s_op (o_pick_f (u := (.bool (decide (((la.length : Nat) : Int) - 1 ≤ x)))) ((rfl : _ = _).trans (congrArg Value.bool (decide_eq_false h4))) rfl ?_)
    refine s_op (o_assign (v := (.bool (decide (((la.length : Nat) : Int) - 1 ≤ x)))) rfl ?_)
    refine s_nil ?_
    refine t_norm (hK3 _ _ ?_)
    refine c_cond rfl (fun h9 => ?_) (fun h9 => ?_)
    · -- ((la.length : Nat) : Int) - 1 ≤ x
      refine wp_seq_k fun K10 hK10 => ?_
      refine c_region ?_
      refine s_op (o_assign (v := (.int .i64 1)) rfl ?_)
      refine s_nil ?_
      refine t_norm (hK10 _ _ ?_)
      refine wp_ret ?_
      refine b_ret (t_ret (c_ret1 Tryd.results15  (v := (.int .i64 1)) rfl ?_))
      exact ⟨by rw [thE_arg (by omega)], hH7⟩
    · -- not: ((la.length : Nat) : Int) - 1 ≤ x
      refine wp_seq_k fun K11 hK11 => ?_
      refine c_region ?_
      refine s_op (o_move (v := (.pointer (some ⟨db, 0, none⟩))) rfl ?_)
      refine s_op (o_callf (vs := #[(.pointer (some ⟨db, 0, none⟩))]) ca28 rfl (args1 rfl) (don_d (p := p) (la := la) (lo := ([] : List (Int × Bs))) ((hH7.front 1 rfl).front 1 rfl).all2 hd ) ?_)
      rintro _ w14 ⟨rfl, hX12⟩
      refine ⟨_, rfl, ?_⟩
      have hH13 : Has E w14 [sg, [Hp.one pb (.cells #[(.bool p.off), (.bool p.armed), (.int .i64 p.left), (.int .i64 p.uses)] 50 (0, 0))], R] := hX12.of_all2
      refine s_op (o_not rfl ?_)
      refine s_op (o_assign (v := (.bool (!(!p.off)))) rfl ?_)
      refine s_nil ?_
      refine t_norm (hK11 _ _ ?_)
      refine c_condb rfl (fun h15 => ?_) (fun h15 => ?_)
      · -- !(!p.off)
        have h15_n : (!p.off) = false := by simpa using h15
        have h15_n_n : p.off = true := by simpa using h15_n
        refine wp_seq_k fun K16 hK16 => ?_
        refine c_region ?_
        refine s_op (o_assign (v := (.int .i64 6)) rfl ?_)
        refine s_nil ?_
        refine t_norm (hK16 _ _ ?_)
        refine wp_ret ?_
        refine b_ret (t_ret (c_ret1 Tryd.results15  (v := (.int .i64 6)) rfl ?_))
        exact ⟨by rw [thE_off (by omega) (by omega) (by simpa using h15)], hH13⟩
      · -- not: !(!p.off)
        have h15_n : (!p.off) = true := by simpa using h15
        have h15_n_n : p.off = false := by simpa using h15_n
        refine wp_skip ?_
        refine b_norm ?_
        refine t_norm (hK2 _ _ ?_)
        refine wp_seq_k fun K17 hK17 => ?_
        refine c_region ?_
        refine s_op (o_assign (v := (.int .i64 0)) rfl ?_)
        refine s_nil ?_
        refine t_norm (hK17 _ _ ?_)
        refine wp_ret ?_
        refine c_ret1 Tryd.results15  (v := (.int .i64 0)) rfl ?_
        exact ⟨by rw [thE_ok (by omega) (by omega) (by simpa using h15)], hH13⟩
set_option maxHeartbeats 4000000 in
theorem hload_nil {E w : World} {R : List Hp} (hH : Has E w [R]) (x : Int) :
    Calls Tryd.prog 6 #[(.pointer none), (.int .i64 x)] w fun e w' => e = .returned (.tuple #[.agg #[(.int .i64 hdZ.seq), (.int .i64 hdZ.ep), (.int .i64 hdZ.cut), (.int .i64 hdZ.st), (.int .i64 hdZ.mrk)], .int .i64 1]) ∧ Has E w' [R] := by
  refine c_enter (args := [(.pointer none), (.int .i64 x)]) Tryd.func6 rfl Tryd.ntmps6 (by simp) ?_
  refine wp_seq_k fun K1 hK1 => ?_
  refine c_region ?_
  refine s_op (o_alloc (cs := #[(.int .i64 0), (.int .i64 0), (.int .i64 0), (.int .i64 0), (.int .i64 0)]) ti25 rfl hH fun b2 w3 hH4 => ?_)
  refine s_op (o_assign (v := (.int .i64 0)) rfl ?_)
  refine s_nil ?_
  refine t_norm (hK1 _ _ ?_)
  refine wp_seq_k fun K5 hK5 => ?_
  refine wp_seq_k fun K6 hK6 => ?_
  refine c_region ?_
  refine s_op (o_move (v := (.pointer none)) rfl ?_)
  refine s_op (o_move (v := (.int .i64 x)) rfl ?_)
  refine s_op (o_callf (vs := #[(.pointer none), (.int .i64 x)]) ca15 rfl (args2 rfl rfl) (there_nil hH4.all x) ?_)
  rintro _ w9 ⟨rfl, hX7⟩
  refine ⟨_, rfl, ?_⟩
  have hH8 := hX7.of_all
  refine s_op (o_assign (v := (.int .i64 (1 : Int))) rfl ?_)
  refine s_nil ?_
  refine t_norm (hK6 _ _ ?_)
  refine wp_seq_k fun K10 hK10 => ?_
  refine c_region ?_
  refine s_op (o_move (v := (.int .i64 (1 : Int))) rfl ?_)
  refine s_op (o_neq (a := (1 : Int)) (b := 0) rfl rfl ?_)
  refine s_nil ?_
  refine t_norm (hK10 _ _ ?_)
  refine c_cond rfl (fun h11 => ?_) (fun h11 => ?_)
  · -- (1 : Int) ≠ 0
    refine wp_seq_k fun K12 hK12 => ?_
    refine c_region ?_
    refine s_op (o_sight (v := (.agg #[(.int .i64 0), (.int .i64 0), (.int .i64 0), (.int .i64 0), (.int .i64 0)])) (fun _ => by kernel_rfl) ?_)
    refine s_op (o_move (v := (.int .i64 (1 : Int))) rfl ?_)
    refine s_eff (o_storeN (vs := [(.int .i64 0), (.int .i64 0), (.int .i64 0), (.int .i64 0), (.int .i64 0)]) (c' := #[(.int .i64 0), (.int .i64 0), (.int .i64 0), (.int .i64 0), (.int .i64 0)]) ti25 rfl rfl rfl rfl (by intro u hu; simp only [List.mem_cons, List.not_mem_nil, or_false] at hu; rcases hu with rfl | rfl | rfl | rfl | rfl <;> first | rfl) (by simp) (by kernel_rfl) (hH8.front 0 rfl) fun w13 hH14 => ?_)
    refine s_op (o_assign (v := (.int .i64 (1 : Int))) rfl ?_)
    refine s_nil ?_
    refine t_norm (hK12 _ _ ?_)
    refine wp_ret ?_
    refine t_ret (c_retC2 Tryd.results6 rfl (run_loadVarN (cs := [(.int .i64 0), (.int .i64 0), (.int .i64 0), (.int .i64 0), (.int .i64 0)]) Tryd.underlying25 rfl ti25 hH14 (seg_sub 0 rfl) (CellsAt.one rfl)) (x := (.int .i64 (1 : Int))) rfl ?_)
    have hH15 : Has E w13 [R] := (hH14.front 1 rfl).first 1 rfl
    exact ⟨rfl, hH15⟩
  · -- not: (1 : Int) ≠ 0
    exact absurd (by decide) h11
set_option maxHeartbeats 4000000 in
theorem hsave_nil {E w : World} {R : List Hp} (hH : Has E w [R]) (hg : CellsAt R 0 0 nibV) (x : Int) {h : Hd} :
    Calls Tryd.prog 7 #[(.pointer none), (.int .i64 x), (.agg #[(.int .i64 h.seq), (.int .i64 h.ep), (.int .i64 h.cut), (.int .i64 h.st), (.int .i64 h.mrk)])] w fun e w' => e = .returned (.tuple #[.agg #[(.int .i64 hdZ.seq), (.int .i64 hdZ.ep), (.int .i64 hdZ.cut), (.int .i64 hdZ.st), (.int .i64 hdZ.mrk)], .int .i64 1]) ∧ Has E w' [R] := by
  refine c_enter (args := [(.pointer none), (.int .i64 x), (.agg #[(.int .i64 h.seq), (.int .i64 h.ep), (.int .i64 h.cut), (.int .i64 h.st), (.int .i64 h.mrk)])]) Tryd.func7 rfl Tryd.ntmps7 (by simp) ?_
  refine wp_seq_k fun K1 hK1 => ?_
  refine c_region ?_
  refine s_op (o_box (cs := #[(.int .i64 h.seq), (.int .i64 h.ep), (.int .i64 h.cut), (.int .i64 h.st), (.int .i64 h.mrk)]) rfl rfl hH fun b2 w3 hH4 => ?_)
  refine s_op (o_alloc (cs := #[(.int .i64 0), (.int .i64 0), (.int .i64 0), (.int .i64 0), (.int .i64 0)]) ti25 rfl hH4 fun b5 w6 hH7 => ?_)
  refine s_op (o_assign (v := (.int .i64 0)) rfl ?_)
  refine s_nil ?_
  refine t_norm (hK1 _ _ ?_)
  refine wp_seq_k fun K8 hK8 => ?_
  refine wp_seq_k fun K9 hK9 => ?_
  refine c_region ?_
  refine s_op (o_fieldAddr (k := 0) (fun _ => by kernel_rfl) rfl ?_)
  refine s_op (o_load1 (v := (.int .i64 h.seq)) Tryd.underlying3 rfl rfl hH7 (seg_sub 1 rfl) (CellsAt.one rfl) ?_)
  refine s_op (o_lss (a := h.seq) (b := 0) rfl rfl ?_)
  refine s_op (o_move (v := (.bool (decide (h.seq < 0)))) rfl ?_)
  by_cases h10 : h.seq < 0
  · -- h.seq < 0
    refine s_off (b' := true) 14 rfl (congrArg Value.bool (decide_eq_true h10)) rfl ?_
    refine s_off (b' := true) 14 rfl (congrArg Value.bool (decide_eq_true h10)) rfl ?_
    refine s_off (b' := true) 14 rfl (congrArg Value.bool (decide_eq_true h10)) rfl ?_
    refine s_op (o_pick_t (u := (.bool true)) ((rfl : _ = _).trans (congrArg Value.bool (decide_eq_true h10))) rfl ?_)
    refine s_op (o_move (v := (.bool true)) rfl ?_)
    refine s_off (b' := true) 19 rfl rfl rfl ?_
    refine s_off (b' := true) 19 rfl rfl rfl ?_
    refine s_off (b' := true) 19 rfl rfl rfl ?_
    refine s_op (o_pick_t (u := (.bool true)) rfl rfl ?_)
    refine s_nil ?_
    refine t_norm (hK9 _ _ ?_)
    refine c_true rfl rfl ?_
    refine wp_seq_k fun K11 hK11 => ?_
    refine c_region ?_
    refine s_op (o_sight (v := (.agg #[(.int .i64 0), (.int .i64 0), (.int .i64 0), (.int .i64 0), (.int .i64 0)])) (fun _ => by kernel_rfl) ?_)
    refine s_eff (o_storeN (vs := [(.int .i64 0), (.int .i64 0), (.int .i64 0), (.int .i64 0), (.int .i64 0)]) (c' := #[(.int .i64 0), (.int .i64 0), (.int .i64 0), (.int .i64 0), (.int .i64 0)]) ti25 rfl rfl rfl rfl (by intro u hu; simp only [List.mem_cons, List.not_mem_nil, or_false] at hu; rcases hu with rfl | rfl | rfl | rfl | rfl <;> first | rfl) (by simp) (by kernel_rfl) (hH7.front 0 rfl) fun w12 hH13 => ?_)
    refine s_op (o_assign (v := (.int .i64 1)) rfl ?_)
    refine s_nil ?_
    refine t_norm (hK11 _ _ ?_)
    refine wp_ret ?_
    refine t_ret (c_retC2 Tryd.results7 rfl (run_loadVarN (cs := [(.int .i64 0), (.int .i64 0), (.int .i64 0), (.int .i64 0), (.int .i64 0)]) Tryd.underlying25 rfl ti25 hH13 (seg_sub 0 rfl) (CellsAt.one rfl)) (x := (.int .i64 1)) rfl ?_)
    have hH14 : Has E w12 [R] := (hH13.front 2 rfl).first 1 rfl
    exact ⟨rfl, hH14⟩
  · -- not: h.seq < 0
    refine s_on 14 rfl (congrArg Value.bool (decide_eq_false h10)) (o_fieldAddr (k := 0) (fun _ => by kernel_rfl) rfl ?_)
    refine s_on 14 rfl (congrArg Value.bool (decide_eq_false h10)) (o_load1 (v := (.int .i64 h.seq)) Tryd.underlying3 rfl rfl hH7 (seg_sub 1 rfl) (CellsAt.one rfl) ?_)
    refine s_on 14 rfl (congrArg Value.bool (decide_eq_false h10)) (o_geq (a := h.seq) (b := 4611686018427387903) rfl rfl ?_)
    refine s_op (o_pick_f (u := (.bool (decide (4611686018427387903 ≤ h.seq)))) ((rfl : _ = _).trans (congrArg Value.bool (decide_eq_false h10))) rfl ?_)
    refine s_op (o_move (v := (.bool (decide (4611686018427387903 ≤ h.seq)))) rfl ?_)
    by_cases h15 : 4611686018427387903 ≤ h.seq
    · -- 4611686018427387903 ≤ h.seq
      refine s_off (b' := true) 19 rfl (congrArg Value.bool (decide_eq_true h15)) rfl ?_
      refine s_off (b' := true) 19 rfl (congrArg Value.bool (decide_eq_true h15)) rfl ?_
      refine s_off (b' := true) 19 rfl (congrArg Value.bool (decide_eq_true h15)) rfl ?_
      refine s_op (o_pick_t (u := (.bool true)) ((rfl : _ = _).trans (congrArg Value.bool (decide_eq_true h15))) rfl ?_)
      refine s_nil ?_
      refine t_norm (hK9 _ _ ?_)
      refine c_true rfl rfl ?_
      refine wp_seq_k fun K16 hK16 => ?_
      refine c_region ?_
      refine s_op (o_sight (v := (.agg #[(.int .i64 0), (.int .i64 0), (.int .i64 0), (.int .i64 0), (.int .i64 0)])) (fun _ => by kernel_rfl) ?_)
      refine s_eff (o_storeN (vs := [(.int .i64 0), (.int .i64 0), (.int .i64 0), (.int .i64 0), (.int .i64 0)]) (c' := #[(.int .i64 0), (.int .i64 0), (.int .i64 0), (.int .i64 0), (.int .i64 0)]) ti25 rfl rfl rfl rfl (by intro u hu; simp only [List.mem_cons, List.not_mem_nil, or_false] at hu; rcases hu with rfl | rfl | rfl | rfl | rfl <;> first | rfl) (by simp) (by kernel_rfl) (hH7.front 0 rfl) fun w17 hH18 => ?_)
      refine s_op (o_assign (v := (.int .i64 1)) rfl ?_)
      refine s_nil ?_
      refine t_norm (hK16 _ _ ?_)
      refine wp_ret ?_
      refine t_ret (c_retC2 Tryd.results7 rfl (run_loadVarN (cs := [(.int .i64 0), (.int .i64 0), (.int .i64 0), (.int .i64 0), (.int .i64 0)]) Tryd.underlying25 rfl ti25 hH18 (seg_sub 0 rfl) (CellsAt.one rfl)) (x := (.int .i64 1)) rfl ?_)
      have hH19 : Has E w17 [R] := (hH18.front 2 rfl).first 1 rfl
      exact ⟨rfl, hH19⟩
    · -- not: 4611686018427387903 ≤ h.seq
      refine s_on 19 rfl (congrArg Value.bool (decide_eq_false h15)) (o_loadN (cs := [(.int .i64 h.seq), (.int .i64 h.ep), (.int .i64 h.cut), (.int .i64 h.st), (.int .i64 h.mrk)]) Tryd.underlying25 rfl ti25 rfl hH7 (seg_sub 1 rfl) (CellsAt.one rfl) ?_)
      refine s_on 19 rfl (congrArg Value.bool (decide_eq_false h15)) (o_callf (vs := #[(.agg #[(.int .i64 h.seq), (.int .i64 h.ep), (.int .i64 h.cut), (.int .i64 h.st), (.int .i64 h.mrk)])]) ca18 rfl (args1 rfl) (hright_c (h := h) hH7.all ) ?_)
      rintro _ w22 ⟨rfl, hX20⟩
      refine ⟨_, rfl, ?_⟩
      have hH21 := hX20.of_all
      refine s_on 19 rfl (congrArg Value.bool (decide_eq_false h15)) (o_not rfl ?_)
      refine s_op (o_pick_f (u := (.bool (!(hdR h)))) ((rfl : _ = _).trans (congrArg Value.bool (decide_eq_false h15))) rfl ?_)
      refine s_nil ?_
      refine t_norm (hK9 _ _ ?_)
      refine c_condb rfl (fun h23 => ?_) (fun h23 => ?_)
      · -- !(hdR h)
        have h23_n : (hdR h) = false := by simpa using h23
        refine wp_seq_k fun K24 hK24 => ?_
        refine c_region ?_
        refine s_op (o_sight (v := (.agg #[(.int .i64 0), (.int .i64 0), (.int .i64 0), (.int .i64 0), (.int .i64 0)])) (fun _ => by kernel_rfl) ?_)
        refine s_eff (o_storeN (vs := [(.int .i64 0), (.int .i64 0), (.int .i64 0), (.int .i64 0), (.int .i64 0)]) (c' := #[(.int .i64 0), (.int .i64 0), (.int .i64 0), (.int .i64 0), (.int .i64 0)]) ti25 rfl rfl rfl rfl (by intro u hu; simp only [List.mem_cons, List.not_mem_nil, or_false] at hu; rcases hu with rfl | rfl | rfl | rfl | rfl <;> first | rfl) (by simp) (by kernel_rfl) (hH21.front 0 rfl) fun w25 hH26 => ?_)
        refine s_op (o_assign (v := (.int .i64 1)) rfl ?_)
        refine s_nil ?_
        refine t_norm (hK24 _ _ ?_)
        refine wp_ret ?_
        refine t_ret (c_retC2 Tryd.results7 rfl (run_loadVarN (cs := [(.int .i64 0), (.int .i64 0), (.int .i64 0), (.int .i64 0), (.int .i64 0)]) Tryd.underlying25 rfl ti25 hH26 (seg_sub 0 rfl) (CellsAt.one rfl)) (x := (.int .i64 1)) rfl ?_)
        have hH27 : Has E w25 [R] := (hH26.front 2 rfl).first 1 rfl
        exact ⟨rfl, hH27⟩
      · -- not: !(hdR h)
        have h23_n : (hdR h) = true := by simpa using h23
        refine wp_skip ?_
        refine t_norm (hK8 _ _ ?_)
        refine wp_seq_k fun K28 hK28 => ?_
        refine wp_seq_k fun K29 hK29 => ?_
        refine c_region ?_
        refine s_op (o_move (v := (.pointer none)) rfl ?_)
        refine s_op (o_move (v := (.int .i64 x)) rfl ?_)
        refine s_op (o_callf (vs := #[(.pointer none), (.int .i64 x)]) ca15 rfl (args2 rfl rfl) (there_nil hH21.all x) ?_)
        rintro _ w32 ⟨rfl, hX30⟩
        refine ⟨_, rfl, ?_⟩
        have hH31 := hX30.of_all
        refine s_op (o_assign (v := (.int .i64 (1 : Int))) rfl ?_)
        refine s_nil ?_
        refine t_norm (hK29 _ _ ?_)
        refine wp_seq_k fun K33 hK33 => ?_
        refine c_region ?_
        refine s_op (o_move (v := (.int .i64 (1 : Int))) rfl ?_)
        refine s_op (o_neq (a := (1 : Int)) (b := 0) rfl rfl ?_)
        refine s_nil ?_
        refine t_norm (hK33 _ _ ?_)
        refine c_cond rfl (fun h34 => ?_) (fun h34 => ?_)
        · -- (1 : Int) ≠ 0
          refine wp_seq_k fun K35 hK35 => ?_
          refine c_region ?_
          refine s_op (o_sight (v := (.agg #[(.int .i64 0), (.int .i64 0), (.int .i64 0), (.int .i64 0), (.int .i64 0)])) (fun _ => by kernel_rfl) ?_)
          refine s_op (o_move (v := (.int .i64 (1 : Int))) rfl ?_)
          refine s_eff (o_storeN (vs := [(.int .i64 0), (.int .i64 0), (.int .i64 0), (.int .i64 0), (.int .i64 0)]) (c' := #[(.int .i64 0), (.int .i64 0), (.int .i64 0), (.int .i64 0), (.int .i64 0)]) ti25 rfl rfl rfl rfl (by intro u hu; simp only [List.mem_cons, List.not_mem_nil, or_false] at hu; rcases hu with rfl | rfl | rfl | rfl | rfl <;> first | rfl) (by simp) (by kernel_rfl) (hH31.front 0 rfl) fun w36 hH37 => ?_)
          refine s_op (o_assign (v := (.int .i64 (1 : Int))) rfl ?_)
          refine s_nil ?_
          refine t_norm (hK35 _ _ ?_)
          refine wp_ret ?_
          refine t_ret (c_retC2 Tryd.results7 rfl (run_loadVarN (cs := [(.int .i64 0), (.int .i64 0), (.int .i64 0), (.int .i64 0), (.int .i64 0)]) Tryd.underlying25 rfl ti25 hH37 (seg_sub 0 rfl) (CellsAt.one rfl)) (x := (.int .i64 (1 : Int))) rfl ?_)
          have hH38 : Has E w36 [R] := (hH37.front 2 rfl).first 1 rfl
          exact ⟨rfl, hH38⟩
        · -- not: (1 : Int) ≠ 0
          exact absurd (by decide) h34
end Go.Q
namespace Go.Q
open Go.Proofs
set_option linter.unusedVariables false
set_option maxRecDepth 100000
attribute [local irreducible] wpList OK Code.wp
set_option maxHeartbeats 4000000 in
theorem hsave_c {E w : World} {R sg : List Hp} {pb db : Nat} {p : Pw} {la : List Bs} (hH : Has E w [sg, [Hp.one pb (.cells #[(.bool p.off), (.bool p.armed), (.int .i64 p.left), (.int .i64 p.uses)] 50 (0, 0))], R]) (hd : DevAt pb sg db la []) (hg : CellsAt R 0 0 nibV) (hp : PwOk p) (hq : PwOk (useS p)) (hla : la.length ≤ 4096) (x : Int) {h : Hd} :
    Calls Tryd.prog 7 #[(.pointer (some ⟨db, 0, none⟩)), (.int .i64 x), (.agg #[(.int .i64 h.seq), (.int .i64 h.ep), (.int .i64 h.cut), (.int .i64 h.st), (.int .i64 h.mrk)])] w fun e w' => ∃ sg', e = .returned (.tuple #[.agg #[(.int .i64 (svH p la.length x h).seq), (.int .i64 (svH p la.length x h).ep), (.int .i64 (svH p la.length x h).cut), (.int .i64 (svH p la.length x h).st), (.int .i64 (svH p la.length x h).mrk)], .int .i64 (svE p la.length x h)]) ∧ DevAt pb sg' db (svA p la x h) (svO p la.length x h) ∧ Has E w' [sg', [Hp.one pb (.cells #[(.bool (svP p la.length x h).off), (.bool (svP p la.length x h).armed), (.int .i64 (svP p la.length x h).left), (.int .i64 (svP p la.length x h).uses)] 50 (0, 0))], R] := by
  refine c_enter (args := [(.pointer (some ⟨db, 0, none⟩)), (.int .i64 x), (.agg #[(.int .i64 h.seq), (.int .i64 h.ep), (.int .i64 h.cut), (.int .i64 h.st), (.int .i64 h.mrk)])]) Tryd.func7 rfl Tryd.ntmps7 (by simp) ?_
  refine wp_seq_k fun K1 hK1 => ?_
  refine c_region ?_
  refine s_op (o_box (cs := #[(.int .i64 h.seq), (.int .i64 h.ep), (.int .i64 h.cut), (.int .i64 h.st), (.int .i64 h.mrk)]) rfl rfl hH fun b2 w3 hH4 => ?_)
  refine s_op (o_alloc (cs := #[(.int .i64 0), (.int .i64 0), (.int .i64 0), (.int .i64 0), (.int .i64 0)]) ti25 rfl hH4 fun b5 w6 hH7 => ?_)
  refine s_op (o_assign (v := (.int .i64 0)) rfl ?_)
  refine s_nil ?_
  refine t_norm (hK1 _ _ ?_)
  refine wp_seq_k fun K8 hK8 => ?_
  refine wp_seq_k fun K9 hK9 => ?_
  refine c_region ?_
  refine s_op (o_fieldAddr (k := 0) (fun _ => by kernel_rfl) rfl ?_)
  refine s_op (o_load1 (v := (.int .i64 h.seq)) Tryd.underlying3 rfl rfl hH7 (seg_sub 1 rfl) (CellsAt.one rfl) ?_)
  refine s_op (o_lss (a := h.seq) (b := 0) rfl rfl ?_)
  refine s_op (o_move (v := (.bool (decide (h.seq < 0)))) rfl ?_)
  by_cases h10 : h.seq < 0
  · -- h.seq < 0
    refine s_off (b' := true) 14 rfl (congrArg Value.bool (decide_eq_true h10)) rfl ?_
    refine s_off (b' := true) 14 rfl (congrArg Value.bool (decide_eq_true h10)) rfl ?_
    refine s_off (b' := true) 14 rfl (congrArg Value.bool (decide_eq_true h10)) rfl ?_
    refine s_op (o_pick_t (u := (.bool true)) ((rfl : _ = _).trans (congrArg Value.bool (decide_eq_true h10))) rfl ?_)
    refine s_op (o_move (v := (.bool true)) rfl ?_)
    refine s_off (b' := true) 19 rfl rfl rfl ?_
    refine s_off (b' := true) 19 rfl rfl rfl ?_
    refine s_off (b' := true) 19 rfl rfl rfl ?_
    refine s_op (o_pick_t (u := (.bool true)) rfl rfl ?_)
    refine s_nil ?_
    refine t_norm (hK9 _ _ ?_)
    refine c_true rfl rfl ?_
    refine wp_seq_k fun K11 hK11 => ?_
    refine c_region ?_
    refine s_op (o_sight (v := (.agg #[(.int .i64 0), (.int .i64 0), (.int .i64 0), (.int .i64 0), (.int .i64 0)])) (fun _ => by kernel_rfl) ?_)
    refine s_eff (o_storeN (vs := [(.int .i64 0), (.int .i64 0), (.int .i64 0), (.int .i64 0), (.int .i64 0)]) (c' := #[(.int .i64 0), (.int .i64 0), (.int .i64 0), (.int .i64 0), (.int .i64 0)]) ti25 rfl rfl rfl rfl (by intro u hu; simp only [List.mem_cons, List.not_mem_nil, or_false] at hu; rcases hu with rfl | rfl | rfl | rfl | rfl <;> first | rfl) (by simp) (by kernel_rfl) (hH7.front 0 rfl) fun w12 hH13 => ?_)
    refine s_op (o_assign (v := (.int .i64 1)) rfl ?_)
    refine s_nil ?_
    refine t_norm (hK11 _ _ ?_)
    refine wp_ret ?_
    refine t_ret (c_retC2 Tryd.results7 rfl (run_loadVarN (cs := [(.int .i64 0), (.int .i64 0), (.int .i64 0), (.int .i64 0), (.int .i64 0)]) Tryd.underlying25 rfl ti25 hH13 (seg_sub 0 rfl) (CellsAt.one rfl)) (x := (.int .i64 1)) rfl ?_)
    have hH14 : Has E w12 [sg, [Hp.one pb (.cells #[(.bool p.off), (.bool p.armed), (.int .i64 p.left), (.int .i64 p.uses)] 50 (0, 0))], R] := (((hH13.front 4 rfl).front 4 rfl).front 4 rfl).first 3 rfl
    obtain ⟨e1_, e2_, e3_, e4_, e5_⟩ := sv_bad (p := p) (la := la) (x := x) (h := h) (fun k => by have k1 := k.1; have k2 := k.2; omega)
    exact ⟨sg, by rw [e4_, e5_]; first | rfl | (unfold hdUp; rfl), by rw [e2_, e3_]; exact hd, by rw [e1_]; exact hH14⟩
  · -- not: h.seq < 0
    refine s_on 14 rfl (congrArg Value.bool (decide_eq_false h10)) (o_fieldAddr (k := 0) (fun _ => by kernel_rfl) rfl ?_)
    refine s_on 14 rfl (congrArg Value.bool (decide_eq_false h10)) (o_load1 (v := (.int .i64 h.seq)) Tryd.underlying3 rfl rfl hH7 (seg_sub 1 rfl) (CellsAt.one rfl) ?_)
    refine s_on 14 rfl (congrArg Value.bool (decide_eq_false h10)) (o_geq (a := h.seq) (b := 4611686018427387903) rfl rfl ?_)
    refine s_op (o_pick_f (u := (.bool (decide (4611686018427387903 ≤ h.seq)))) ((rfl : _ = _).trans (congrArg Value.bool (decide_eq_false h10))) rfl ?_)
    refine s_op (o_move (v := (.bool (decide (4611686018427387903 ≤ h.seq)))) rfl ?_)
    by_cases h15 : 4611686018427387903 ≤ h.seq
    · -- 4611686018427387903 ≤ h.seq
      refine s_off (b' := true) 19 rfl (congrArg Value.bool (decide_eq_true h15)) rfl ?_
      refine s_off (b' := true) 19 rfl (congrArg Value.bool (decide_eq_true h15)) rfl ?_
      refine s_off (b' := true) 19 rfl (congrArg Value.bool (decide_eq_true h15)) rfl ?_
      refine s_op (o_pick_t (u := (.bool true)) ((rfl : _ = _).trans (congrArg Value.bool (decide_eq_true h15))) rfl ?_)
      refine s_nil ?_
      refine t_norm (hK9 _ _ ?_)
      refine c_true rfl rfl ?_
      refine wp_seq_k fun K16 hK16 => ?_
      refine c_region ?_
      refine s_op (o_sight (v := (.agg #[(.int .i64 0), (.int .i64 0), (.int .i64 0), (.int .i64 0), (.int .i64 0)])) (fun _ => by kernel_rfl) ?_)
      refine s_eff (o_storeN (vs := [(.int .i64 0), (.int .i64 0), (.int .i64 0), (.int .i64 0), (.int .i64 0)]) (c' := #[(.int .i64 0), (.int .i64 0), (.int .i64 0), (.int .i64 0), (.int .i64 0)]) ti25 rfl rfl rfl rfl (by intro u hu; simp only [List.mem_cons, List.not_mem_nil, or_false] at hu; rcases hu with rfl | rfl | rfl | rfl | rfl <;> first | rfl) (by simp) (by kernel_rfl) (hH7.front 0 rfl) fun w17 hH18 => ?_)
      refine s_op (o_assign (v := (.int .i64 1)) rfl ?_)
      refine s_nil ?_
      refine t_norm (hK16 _ _ ?_)
      refine wp_ret ?_
      refine t_ret (c_retC2 Tryd.results7 rfl (run_loadVarN (cs := [(.int .i64 0), (.int .i64 0), (.int .i64 0), (.int .i64 0), (.int .i64 0)]) Tryd.underlying25 rfl ti25 hH18 (seg_sub 0 rfl) (CellsAt.one rfl)) (x := (.int .i64 1)) rfl ?_)
      have hH19 : Has E w17 [sg, [Hp.one pb (.cells #[(.bool p.off), (.bool p.armed), (.int .i64 p.left), (.int .i64 p.uses)] 50 (0, 0))], R] := (((hH18.front 4 rfl).front 4 rfl).front 4 rfl).first 3 rfl
      obtain ⟨e1_, e2_, e3_, e4_, e5_⟩ := sv_bad (p := p) (la := la) (x := x) (h := h) (fun k => by have k1 := k.1; have k2 := k.2; omega)
      exact ⟨sg, by rw [e4_, e5_]; first | rfl | (unfold hdUp; rfl), by rw [e2_, e3_]; exact hd, by rw [e1_]; exact hH19⟩
    · -- not: 4611686018427387903 ≤ h.seq
      refine s_on 19 rfl (congrArg Value.bool (decide_eq_false h15)) (o_loadN (cs := [(.int .i64 h.seq), (.int .i64 h.ep), (.int .i64 h.cut), (.int .i64 h.st), (.int .i64 h.mrk)]) Tryd.underlying25 rfl ti25 rfl hH7 (seg_sub 1 rfl) (CellsAt.one rfl) ?_)
      refine s_on 19 rfl (congrArg Value.bool (decide_eq_false h15)) (o_callf (vs := #[(.agg #[(.int .i64 h.seq), (.int .i64 h.ep), (.int .i64 h.cut), (.int .i64 h.st), (.int .i64 h.mrk)])]) ca18 rfl (args1 rfl) (hright_c (h := h) hH7.all ) ?_)
      rintro _ w22 ⟨rfl, hX20⟩
      refine ⟨_, rfl, ?_⟩
      have hH21 := hX20.of_all
      refine s_on 19 rfl (congrArg Value.bool (decide_eq_false h15)) (o_not rfl ?_)
      refine s_op (o_pick_f (u := (.bool (!(hdR h)))) ((rfl : _ = _).trans (congrArg Value.bool (decide_eq_false h15))) rfl ?_)
      refine s_nil ?_
      refine t_norm (hK9 _ _ ?_)
      refine c_condb rfl (fun h23 => ?_) (fun h23 => ?_)
      · -- !(hdR h)
        have h23_n : (hdR h) = false := by simpa using h23
        refine wp_seq_k fun K24 hK24 => ?_
        refine c_region ?_
        refine s_op (o_sight (v := (.agg #[(.int .i64 0), (.int .i64 0), (.int .i64 0), (.int .i64 0), (.int .i64 0)])) (fun _ => by kernel_rfl) ?_)
        refine s_eff (o_storeN (vs := [(.int .i64 0), (.int .i64 0), (.int .i64 0), (.int .i64 0), (.int .i64 0)]) (c' := #[(.int .i64 0), (.int .i64 0), (.int .i64 0), (.int .i64 0), (.int .i64 0)]) ti25 rfl rfl rfl rfl (by intro u hu; simp only [List.mem_cons, List.not_mem_nil, or_false] at hu; rcases hu with rfl | rfl | rfl | rfl | rfl <;> first | rfl) (by simp) (by kernel_rfl) (hH21.front 0 rfl) fun w25 hH26 => ?_)
        refine s_op (o_assign (v := (.int .i64 1)) rfl ?_)
        refine s_nil ?_
        refine t_norm (hK24 _ _ ?_)
        refine wp_ret ?_
        refine t_ret (c_retC2 Tryd.results7 rfl (run_loadVarN (cs := [(.int .i64 0), (.int .i64 0), (.int .i64 0), (.int .i64 0), (.int .i64 0)]) Tryd.underlying25 rfl ti25 hH26 (seg_sub 0 rfl) (CellsAt.one rfl)) (x := (.int .i64 1)) rfl ?_)
        have hH27 : Has E w25 [sg, [Hp.one pb (.cells #[(.bool p.off), (.bool p.armed), (.int .i64 p.left), (.int .i64 p.uses)] 50 (0, 0))], R] := (((hH26.front 4 rfl).front 4 rfl).front 4 rfl).first 3 rfl
        obtain ⟨e1_, e2_, e3_, e4_, e5_⟩ := sv_bad (p := p) (la := la) (x := x) (h := h) (fun k => by have k1 := k.1; have k2 := k.2; have k3 := h23; rw [k2] at k3; cases k3)
        exact ⟨sg, by rw [e4_, e5_]; first | rfl | (unfold hdUp; rfl), by rw [e2_, e3_]; exact hd, by rw [e1_]; exact hH27⟩
      · -- not: !(hdR h)
        have h23_n : (hdR h) = true := by simpa using h23
        refine wp_skip ?_
        refine t_norm (hK8 _ _ ?_)
        refine wp_seq_k fun K28 hK28 => ?_
        refine wp_seq_k fun K29 hK29 => ?_
        refine c_region ?_
        refine s_op (o_move (v := (.pointer (some ⟨db, 0, none⟩))) rfl ?_)
        refine s_op (o_move (v := (.int .i64 x)) rfl ?_)
        refine s_op (o_callf (vs := #[(.pointer (some ⟨db, 0, none⟩)), (.int .i64 x)]) ca15 rfl (args2 rfl rfl) (there_c ((hH21.front 3 rfl).front 3 rfl).all2 hd x) ?_)
        rintro _ w32 ⟨rfl, hX30⟩
        refine ⟨_, rfl, ?_⟩
        have hH31 : Has E w32 [sg, [Hp.one pb (.cells #[(.bool p.off), (.bool p.armed), (.int .i64 p.left), (.int .i64 p.uses)] 50 (0, 0))], [Hp.one b5 (.cells #[(.int .i64 0), (.int .i64 0), (.int .i64 0), (.int .i64 0), (.int .i64 0)] 25 (0, 0))], [Hp.one b2 (.cells #[(.int .i64 h.seq), (.int .i64 h.ep), (.int .i64 h.cut), (.int .i64 h.st), (.int .i64 h.mrk)] 25 (0, 0))], R] := hX30.of_all2
        refine s_op (o_assign (v := (.int .i64 (thE p la.length x))) rfl ?_)
        refine s_nil ?_
        refine t_norm (hK29 _ _ ?_)
        refine wp_seq_k fun K33 hK33 => ?_
        refine c_region ?_
        refine s_op (o_move (v := (.int .i64 (thE p la.length x))) rfl ?_)
        refine s_op (o_neq (a := thE p la.length x) (b := 0) rfl rfl ?_)
        refine s_nil ?_
        refine t_norm (hK33 _ _ ?_)
        refine c_cond rfl (fun h34 => ?_) (fun h34 => ?_)
        · -- thE p la.length x ≠ 0
          have hth_ := h34
          refine wp_seq_k fun K35 hK35 => ?_
          refine c_region ?_
          refine s_op (o_sight (v := (.agg #[(.int .i64 0), (.int .i64 0), (.int .i64 0), (.int .i64 0), (.int .i64 0)])) (fun _ => by kernel_rfl) ?_)
          refine s_op (o_move (v := (.int .i64 (thE p la.length x))) rfl ?_)
          refine s_eff (o_storeN (vs := [(.int .i64 0), (.int .i64 0), (.int .i64 0), (.int .i64 0), (.int .i64 0)]) (c' := #[(.int .i64 0), (.int .i64 0), (.int .i64 0), (.int .i64 0), (.int .i64 0)]) ti25 rfl rfl rfl rfl (by intro u hu; simp only [List.mem_cons, List.not_mem_nil, or_false] at hu; rcases hu with rfl | rfl | rfl | rfl | rfl <;> first | rfl) (by simp) (by kernel_rfl) (hH31.front 2 rfl) fun w36 hH37 => ?_)
          refine s_op (o_assign (v := (.int .i64 (thE p la.length x))) rfl ?_)
          refine s_nil ?_
          refine t_norm (hK35 _ _ ?_)
          refine wp_ret ?_
          refine t_ret (c_retC2 Tryd.results7 rfl (run_loadVarN (cs := [(.int .i64 0), (.int .i64 0), (.int .i64 0), (.int .i64 0), (.int .i64 0)]) Tryd.underlying25 rfl ti25 hH37 (seg_sub 0 rfl) (CellsAt.one rfl)) (x := (.int .i64 (thE p la.length x))) rfl ?_)
          have hH38 : Has E w36 [sg, [Hp.one pb (.cells #[(.bool p.off), (.bool p.armed), (.int .i64 p.left), (.int .i64 p.uses)] 50 (0, 0))], R] := (((hH37.front 4 rfl).front 3 rfl).front 3 rfl).first 3 rfl
          obtain ⟨e1_, e2_, e3_, e4_, e5_⟩ := sv_th (h := h) ⟨⟨by omega, by omega⟩, by simpa using h23⟩ hth_
          exact ⟨sg, by rw [e4_, e5_]; first | rfl | (unfold hdUp; rfl), by rw [e2_, e3_]; exact hd, by rw [e1_]; exact hH38⟩
        · -- not: thE p la.length x ≠ 0
          have hth_ := thE_zero (Classical.not_not.1 h34)
          have hok_ : svOk h := ⟨⟨by omega, by omega⟩, by simpa using h23⟩
          have hT_ : svTry la.length x h := ⟨hok_, hth_.1⟩
          obtain ⟨hx1_, hx2_⟩ := hth_.1
          refine wp_skip ?_
          refine t_norm (hK28 _ _ ?_)
          refine wp_seq_k fun K39 hK39 => ?_
          refine c_region ?_
          refine s_op (o_fieldAddr (k := 0) (fun _ => by kernel_rfl) rfl ?_)
          refine s_op (o_load1 (v := (.int .i64 h.seq)) Tryd.underlying3 rfl rfl hH31 (seg_sub 3 rfl) (CellsAt.one rfl) ?_)
          refine s_op (o_add (a := h.seq) (b := 1) rfl rfl (w64 (by omega) (by omega)) ?_)
          refine s_op (o_fieldAddr (k := 0) (fun _ => by kernel_rfl) rfl ?_)
          refine s_eff (o_store1 (c' := #[(.int .i64 (h.seq + 1)), (.int .i64 h.ep), (.int .i64 h.cut), (.int .i64 h.st), (.int .i64 h.mrk)]) ti3 rfl rfl rfl (by simp) rfl (hH31.front 3 rfl) fun w40 hH41 => ?_)
          refine s_nil ?_
          refine t_norm (hK39 _ _ ?_)
          refine wp_seq_k fun K42 hK42 => ?_
          refine wp_seq_k fun K43 hK43 => ?_
          refine Rest.region mixed (by kernel_rfl) ?_
          have hH44 : Has E { w40 with drawn := w40.drawn + 1 } [[Hp.one b2 (.cells #[(.int .i64 (h.seq + 1)), (.int .i64 h.ep), (.int .i64 h.cut), (.int .i64 h.st), (.int .i64 h.mrk)] 25 (0, 0))], sg, [Hp.one pb (.cells #[(.bool p.off), (.bool p.armed), (.int .i64 p.left), (.int .i64 p.uses)] 50 (0, 0))], [Hp.one b5 (.cells #[(.int .i64 0), (.int .i64 0), (.int .i64 0), (.int .i64 0), (.int .i64 0)] 25 (0, 0))], R] := Has0.drew hH41 _
          refine Rest.phaseA (fun w_ => Has E w_ [[Hp.one b2 (.cells #[(.int .i64 (h.seq + 1)), (.int .i64 h.ep), (.int .i64 h.cut), (.int .i64 h.st), (.int .i64 h.mrk)] 25 (0, 0))]]) 0 9 9 rfl (by decide) (by kernel_rfl) ?_
          refine a_op 0 rfl (by kernel_rfl) (fun w_ h_ => o_move (v := (.pointer (some ⟨db, 0, none⟩))) rfl ⟨rfl, rfl⟩) ?_
          refine a_op 1 rfl (by kernel_rfl) (fun w_ h_ => o_move (v := (.int .i64 x)) rfl ⟨rfl, rfl⟩) ?_
          refine a_op 2 rfl (by kernel_rfl) (fun w_ h_ => o_fieldAddr (k := 0) (fun _ => by kernel_rfl) rfl ⟨rfl, rfl⟩) ?_
          refine a_op 3 rfl (by kernel_rfl) (fun w_ h_ => o_load1 (v := (.int .i64 (h.seq + 1))) Tryd.underlying3 rfl rfl h_ (seg_sub 0 rfl) (CellsAt.one rfl) ⟨rfl, rfl⟩) ?_
          refine a_op 4 rfl (by kernel_rfl) (fun w_ h_ => o_rem (a := h.seq + 1) (b := 2) (c := (h.seq + 1) % 2) rfl rfl (by omega) ((Int.tmod_eq_emod_of_nonneg (by first | exact Int.natCast_nonneg _ | omega))) ⟨rfl, rfl⟩) ?_
          refine a_op 5 rfl (by kernel_rfl) (fun w_ h_ => o_add (a := x) (b := (h.seq + 1) % 2) rfl rfl (w64 (by omega) (by omega)) ⟨rfl, rfl⟩) ?_
          refine a_op 6 rfl (by kernel_rfl) (fun w_ h_ => o_loadN (cs := [(.int .i64 (h.seq + 1)), (.int .i64 h.ep), (.int .i64 h.cut), (.int .i64 h.st), (.int .i64 h.mrk)]) Tryd.underlying25 rfl ti25 rfl h_ (seg_sub 0 rfl) (CellsAt.one rfl) ⟨rfl, rfl⟩) ?_
          have hH45 : Has E { w40 with drawn := w40.drawn + 1 } [[Hp.one b2 (.cells #[(.int .i64 (h.seq + 1)), (.int .i64 h.ep), (.int .i64 h.cut), (.int .i64 h.st), (.int .i64 h.mrk)] 25 (0, 0))]] := hH44.first 1 rfl
          refine a_w 7 rfl (by kernel_rfl) hH45 (o_callf (vs := #[(.agg #[(.int .i64 (h.seq + 1)), (.int .i64 h.ep), (.int .i64 h.cut), (.int .i64 h.st), (.int .i64 h.mrk)])]) ca14 rfl (args1 rfl) (hlaid_c (h := (Hd.mk (h.seq + 1) h.ep h.cut h.st h.mrk)) hH44.all (hg.mono (seg_sub 4 rfl))) ?_)
          rintro _ w48 ⟨rfl, hX46⟩
          refine ⟨_, rfl, ?_⟩
          have hH47 := hX46.of_all
          have hH49 : Has E w48 [[Hp.one b2 (.cells #[(.int .i64 (h.seq + 1)), (.int .i64 h.ep), (.int .i64 h.cut), (.int .i64 h.st), (.int .i64 h.mrk)] 25 (0, 0))]] := hH47.first 1 rfl
          refine a_w 8 rfl (by kernel_rfl) hH49 (o_buildSlice (ps := #[(0, (S (hdL (Hd.mk (h.seq + 1) h.ep h.cut h.st h.mrk))))]) (cells := #[(S (hdL (Hd.mk (h.seq + 1) h.ep h.cut h.st h.mrk)))]) Tryd.underlying51 ti9 (by decide) (parts1 rfl) (by kernel_rfl) hH47 fun b50 w51 hH52 => ?_)
          have hH53 : Has E w51 [[Hp.one b2 (.cells #[(.int .i64 (h.seq + 1)), (.int .i64 h.ep), (.int .i64 h.cut), (.int .i64 h.st), (.int .i64 h.mrk)] 25 (0, 0))]] := (hH52.front 1 rfl).first 1 rfl
          refine a_done (by kernel_rfl) hH53 ?_
          refine r_op 9 rfl (by kernel_rfl) (o_callf (vs := #[(.pointer (some ⟨db, 0, none⟩)), (.int .i64 (x + ((h.seq + 1) % 2))), (.slice (some ⟨b50, 0, none⟩) 1 1)]) ca19 rfl (args3 rfl rfl rfl) (write_d (p := p) (la := la) (lo := ([] : List (Int × Bs))) ((hH52.front 3 rfl).front 3 rfl).all2 hd hp hla (x + ((h.seq + 1) % 2)) (l := [(hdL (Hd.mk (h.seq + 1) h.ep h.cut h.st h.mrk))]) ((sl_lit (f := sV) (l := [(hdL (Hd.mk (h.seq + 1) h.ep h.cut h.st h.mrk))]) rfl rfl (by simp)).mono (seg_sub 0 rfl)) (by simp) (by simp only [List.flatten_cons, List.flatten_nil, List.append_nil]; have := hdU_len hok_; unfold hdUp at this; omega)) ?_)
          rintro _ w58 ⟨sg54, rfl, hd55, hX56⟩
          refine ⟨_, rfl, ?_⟩
          have hH57 : Has E w58 [sg54, [Hp.one pb (.cells #[(.bool (useS p).off), (.bool (useS p).armed), (.int .i64 (useS p).left), (.int .i64 (useS p).uses)] 50 (0, 0))], [Hp.one b50 (.cells #[(S (hdL (Hd.mk (h.seq + 1) h.ep h.cut h.st h.mrk)))] 9 (0, 0))], [Hp.one b2 (.cells #[(.int .i64 (h.seq + 1)), (.int .i64 h.ep), (.int .i64 h.cut), (.int .i64 h.st), (.int .i64 h.mrk)] 25 (0, 0))], [Hp.one b5 (.cells #[(.int .i64 0), (.int .i64 0), (.int .i64 0), (.int .i64 0), (.int .i64 0)] 25 (0, 0))], R] := hX56.of_all2
          refine r_op 10 rfl (by kernel_rfl) (o_assign (v := (.int .i64 (writeE p la.length (x + ((h.seq + 1) % 2)) [(hdL (Hd.mk (h.seq + 1) h.ep h.cut h.st h.mrk))].flatten))) rfl ?_)
          refine Rest.done (by kernel_rfl) ?_
          refine t_norm (hK43 _ _ ?_)
          refine wp_seq_k fun K59 hK59 => ?_
          refine c_region ?_
          refine s_op (o_move (v := (.int .i64 (writeE p la.length (x + ((h.seq + 1) % 2)) [(hdL (Hd.mk (h.seq + 1) h.ep h.cut h.st h.mrk))].flatten))) rfl ?_)
          refine s_op (o_neq (a := writeE p la.length (x + ((h.seq + 1) % 2)) [(hdL (Hd.mk (h.seq + 1) h.ep h.cut h.st h.mrk))].flatten) (b := 0) rfl rfl ?_)
          refine s_nil ?_
          refine t_norm (hK59 _ _ ?_)
          refine c_cond rfl (fun h60 => ?_) (fun h60 => ?_)
          · -- writeE p la.length (x + ((h.seq + 1) % 2)) [(hdL (Hd.mk (h.seq + 1) h.ep h.cut h.st h.mrk))].flatten ≠ 0
            refine wp_seq_k fun K61 hK61 => ?_
            refine c_region ?_
            refine s_op (o_sight (v := (.agg #[(.int .i64 0), (.int .i64 0), (.int .i64 0), (.int .i64 0), (.int .i64 0)])) (fun _ => by kernel_rfl) ?_)
            refine s_op (o_move (v := (.int .i64 (writeE p la.length (x + ((h.seq + 1) % 2)) [(hdL (Hd.mk (h.seq + 1) h.ep h.cut h.st h.mrk))].flatten))) rfl ?_)
            refine s_eff (o_storeN (vs := [(.int .i64 0), (.int .i64 0), (.int .i64 0), (.int .i64 0), (.int .i64 0)]) (c' := #[(.int .i64 0), (.int .i64 0), (.int .i64 0), (.int .i64 0), (.int .i64 0)]) ti25 rfl rfl rfl rfl (by intro u hu; simp only [List.mem_cons, List.not_mem_nil, or_false] at hu; rcases hu with rfl | rfl | rfl | rfl | rfl <;> first | rfl) (by simp) (by kernel_rfl) (hH57.front 4 rfl) fun w62 hH63 => ?_)
            refine s_op (o_assign (v := (.int .i64 (writeE p la.length (x + ((h.seq + 1) % 2)) [(hdL (Hd.mk (h.seq + 1) h.ep h.cut h.st h.mrk))].flatten))) rfl ?_)
            refine s_nil ?_
            refine t_norm (hK61 _ _ ?_)
            refine wp_ret ?_
            refine t_ret (c_retC2 Tryd.results7 rfl (run_loadVarN (cs := [(.int .i64 0), (.int .i64 0), (.int .i64 0), (.int .i64 0), (.int .i64 0)]) Tryd.underlying25 rfl ti25 hH63 (seg_sub 0 rfl) (CellsAt.one rfl)) (x := (.int .i64 (writeE p la.length (x + ((h.seq + 1) % 2)) [(hdL (Hd.mk (h.seq + 1) h.ep h.cut h.st h.mrk))].flatten))) rfl ?_)
            have hH64 : Has E w62 [sg54, [Hp.one pb (.cells #[(.bool (useS p).off), (.bool (useS p).armed), (.int .i64 (useS p).left), (.int .i64 (useS p).uses)] 50 (0, 0))], R] := (((hH63.front 5 rfl).front 3 rfl).front 3 rfl).first 3 rfl
            obtain ⟨e1_, e2_, e3_, e4_, e5_⟩ := sv_end1 hT_ h60
            exact ⟨sg54, by rw [e4_, e5_]; first | rfl | (unfold hdUp; rfl), by rw [e2_, e3_]; exact hd55, by rw [e1_]; exact hH64⟩
          · -- not: writeE p la.length (x + ((h.seq + 1) % 2)) [(hdL (Hd.mk (h.seq + 1) h.ep h.cut h.st h.mrk))].flatten ≠ 0
            refine wp_skip ?_
            refine t_norm (hK42 _ _ ?_)
            refine wp_seq_k fun K65 hK65 => ?_
            refine wp_seq_k fun K66 hK66 => ?_
            refine c_region ?_
            refine s_op (o_move (v := (.pointer (some ⟨db, 0, none⟩))) rfl ?_)
            refine s_op (o_callf (vs := #[(.pointer (some ⟨db, 0, none⟩))]) ca10 rfl (args1 rfl) (sync_d (p := (useS p)) (la := la) (lo := (writeS p la.length ([] : List (Int × Bs)) (x + ((h.seq + 1) % 2)) [(hdL (Hd.mk (h.seq + 1) h.ep h.cut h.st h.mrk))].flatten)) ((hH57.front 1 rfl).front 1 rfl).all2 hd55 hq hla ((LoOk.nil _).write _ _ _)) ?_)
            rintro _ w71 ⟨sg67, rfl, hd68, hX69⟩
            refine ⟨_, rfl, ?_⟩
            have hH70 : Has E w71 [sg67, [Hp.one pb (.cells #[(.bool (useS (useS p)).off), (.bool (useS (useS p)).armed), (.int .i64 (useS (useS p)).left), (.int .i64 (useS (useS p)).uses)] 50 (0, 0))], [Hp.one b50 (.cells #[(S (hdL (Hd.mk (h.seq + 1) h.ep h.cut h.st h.mrk)))] 9 (0, 0))], [Hp.one b2 (.cells #[(.int .i64 (h.seq + 1)), (.int .i64 h.ep), (.int .i64 h.cut), (.int .i64 h.st), (.int .i64 h.mrk)] 25 (0, 0))], [Hp.one b5 (.cells #[(.int .i64 0), (.int .i64 0), (.int .i64 0), (.int .i64 0), (.int .i64 0)] 25 (0, 0))], R] := hX69.of_all2
            refine s_op (o_assign (v := (.int .i64 (syncE (useS p)))) rfl ?_)
            refine s_nil ?_
            refine t_norm (hK66 _ _ ?_)
            refine wp_seq_k fun K72 hK72 => ?_
            refine c_region ?_
            refine s_op (o_move (v := (.int .i64 (syncE (useS p)))) rfl ?_)
            refine s_op (o_neq (a := syncE (useS p)) (b := 0) rfl rfl ?_)
            refine s_nil ?_
            refine t_norm (hK72 _ _ ?_)
            refine c_cond rfl (fun h73 => ?_) (fun h73 => ?_)
            · -- syncE (useS p) ≠ 0
              refine wp_seq_k fun K74 hK74 => ?_
              refine c_region ?_
              refine s_op (o_sight (v := (.agg #[(.int .i64 0), (.int .i64 0), (.int .i64 0), (.int .i64 0), (.int .i64 0)])) (fun _ => by kernel_rfl) ?_)
              refine s_op (o_move (v := (.int .i64 (syncE (useS p)))) rfl ?_)
              refine s_eff (o_storeN (vs := [(.int .i64 0), (.int .i64 0), (.int .i64 0), (.int .i64 0), (.int .i64 0)]) (c' := #[(.int .i64 0), (.int .i64 0), (.int .i64 0), (.int .i64 0), (.int .i64 0)]) ti25 rfl rfl rfl rfl (by intro u hu; simp only [List.mem_cons, List.not_mem_nil, or_false] at hu; rcases hu with rfl | rfl | rfl | rfl | rfl <;> first | rfl) (by simp) (by kernel_rfl) (hH70.front 4 rfl) fun w75 hH76 => ?_)
              refine s_op (o_assign (v := (.int .i64 (syncE (useS p)))) rfl ?_)
              refine s_nil ?_
              refine t_norm (hK74 _ _ ?_)
              refine wp_ret ?_
              refine t_ret (c_retC2 Tryd.results7 rfl (run_loadVarN (cs := [(.int .i64 0), (.int .i64 0), (.int .i64 0), (.int .i64 0), (.int .i64 0)]) Tryd.underlying25 rfl ti25 hH76 (seg_sub 0 rfl) (CellsAt.one rfl)) (x := (.int .i64 (syncE (useS p)))) rfl ?_)
              have hH77 : Has E w75 [sg67, [Hp.one pb (.cells #[(.bool (useS (useS p)).off), (.bool (useS (useS p)).armed), (.int .i64 (useS (useS p)).left), (.int .i64 (useS (useS p)).uses)] 50 (0, 0))], R] := (((hH76.front 5 rfl).front 3 rfl).front 3 rfl).first 3 rfl
              obtain ⟨e1_, e2_, e3_, e4_, e5_⟩ := sv_end2 hT_ (Classical.not_not.1 h60) h73
              exact ⟨sg67, by rw [e4_, e5_]; first | rfl | (unfold hdUp; rfl), by rw [e2_, e3_]; exact hd68, by rw [e1_]; exact hH77⟩
            · -- not: syncE (useS p) ≠ 0
              refine wp_skip ?_
              refine t_norm (hK65 _ _ ?_)
              refine wp_seq_k fun K78 hK78 => ?_
              refine c_region ?_
              refine s_op (o_loadN (cs := [(.int .i64 (h.seq + 1)), (.int .i64 h.ep), (.int .i64 h.cut), (.int .i64 h.st), (.int .i64 h.mrk)]) Tryd.underlying25 rfl ti25 rfl hH70 (seg_sub 3 rfl) (CellsAt.one rfl) ?_)
              refine s_eff (o_storeN (vs := [(.int .i64 (h.seq + 1)), (.int .i64 h.ep), (.int .i64 h.cut), (.int .i64 h.st), (.int .i64 h.mrk)]) (c' := #[(.int .i64 (h.seq + 1)), (.int .i64 h.ep), (.int .i64 h.cut), (.int .i64 h.st), (.int .i64 h.mrk)]) ti25 rfl rfl rfl rfl (by intro u hu; simp only [List.mem_cons, List.not_mem_nil, or_false] at hu; rcases hu with rfl | rfl | rfl | rfl | rfl <;> first | rfl) (by simp) (by kernel_rfl) (hH70.front 4 rfl) fun w79 hH80 => ?_)
              refine s_op (o_assign (v := (.int .i64 0)) rfl ?_)
              refine s_nil ?_
              refine t_norm (hK78 _ _ ?_)
              refine wp_ret ?_
              refine c_retC2 Tryd.results7 rfl (run_loadVarN (cs := [(.int .i64 (h.seq + 1)), (.int .i64 h.ep), (.int .i64 h.cut), (.int .i64 h.st), (.int .i64 h.mrk)]) Tryd.underlying25 rfl ti25 hH80 (seg_sub 0 rfl) (CellsAt.one rfl)) (x := (.int .i64 0)) rfl ?_
              have hH81 : Has E w79 [sg67, [Hp.one pb (.cells #[(.bool (useS (useS p)).off), (.bool (useS (useS p)).armed), (.int .i64 (useS (useS p)).left), (.int .i64 (useS (useS p)).uses)] 50 (0, 0))], R] := (((hH80.front 5 rfl).front 3 rfl).front 3 rfl).first 3 rfl
              obtain ⟨e1_, e2_, e3_, e4_, e5_⟩ := sv_end3 hT_ (Classical.not_not.1 h60) (Classical.not_not.1 h73)
              exact ⟨sg67, by rw [e4_, e5_]; first | rfl | (unfold hdUp; rfl), by rw [e2_, e3_]; exact hd68, by rw [e1_]; exact hH81⟩
end Go.Q
namespace Go.Q
section
variable {H : Type} {enc : TypeId × Value → H} {P : Program} {w : World} {t e : TypeId} {cs : List Value}
/-- These cells read as a value of the type. -/
def Rd (enc : TypeId × Value → H) (P : Program) (w : World) (t : TypeId) (cs : List Value) : Prop := ∃ fuel x, DataW.trod enc P w 0 (fun _ => true) true fuel t cs = some x
theorem rd_of {v : Value} {d : DataW H} {ps : List MemPlace} (h : DataW.Trod enc P w 0 (fun _ => true) true t v d ps) : Rd enc P w t v.cells.toList := ⟨h.choose, _, h.choose_spec⟩
theorem rd_int {k : IntKind} (ht : P.underlying t = some (.int k)) (h : Rd enc P w t cs) : ∃ n, cs = [.int k n] ∧ (Lit.int k n).wf = true := by
  obtain ⟨f, x, h⟩ := h
  obtain ⟨n, h1, _, h2⟩ := DataW.trod_int ht h
  exact ⟨n, h1, h2⟩
theorem rd_i64 (ht : P.underlying t = some (.int .i64)) (h : Rd enc P w t cs) : ∃ n, cs = [iV n] ∧ (-9223372036854775808 : Int) ≤ n ∧ n ≤ 9223372036854775807 := by
  obtain ⟨n, h1, h2⟩ := rd_int ht h
  exact ⟨n, h1, wf_i64 h2⟩
theorem rd_string (ht : P.underlying t = some .string) (h : Rd enc P w t cs) : ∃ l : List UInt8, cs = [S l] ∧ l.length ≤ 9223372036854775807 := by
  obtain ⟨f, x, h⟩ := h
  obtain ⟨s, h1, _, h2⟩ := DataW.trod_string ht h
  exact ⟨s.data.toList, by rw [h1, S_of], by rw [show maxLen = 9223372036854775807 from rfl] at h2; exact h2⟩
theorem rd_bool (ht : P.underlying t = some .bool) (h : Rd enc P w t cs) : ∃ b, cs = [.bool b] := by
  obtain ⟨f, x, h⟩ := h
  cases f with
  | zero => simp [DataW.trod] at h
  | succ m =>
    unfold DataW.trod at h
    rw [ht] at h
    split at h <;> simp_all
theorem rd_struct {fs : Array Field} (ht : P.underlying t = some (.struct fs)) (h : Rd enc P w t cs) :
    cs.length = P.cellsOf t ∧ ∀ (i : Nat) (f : Field), fs[i]? = some f → Rd enc P w f.type ((cs.drop f.offset).take (P.cellsOf f.type)) := by
  obtain ⟨f, x, h⟩ := h
  obtain ⟨xs, n, _, _, h1, h2, h3⟩ := DataW.trod_struct ht h
  refine ⟨h1, fun i f hf => ?_⟩
  have hi : i < xs.length := by rw [h2]; exact (Array.getElem?_eq_some_iff.1 hf).1
  exact ⟨n, xs[i], by rw [h3 i f hf, List.getElem?_eq_getElem hi]⟩
theorem rd_field {fs : Array Field} {i k : Nat} {f : Field} {T : TypeId} {ds : List Value} (hf : ∀ (i : Nat) (f : Field), fs[i]? = some f → Rd enc P w f.type ((cs.drop f.offset).take (P.cellsOf f.type)))
    (h : fs[i]? = some f) (hT : f.type = T) (hc : P.cellsOf T = k) (hd : (cs.drop f.offset).take k = ds) : Rd enc P w T ds := by
  have g := hf i f h
  rw [hT, hc, hd] at g
  exact g
theorem rd_slice (ht : P.underlying t = some (.slice e)) (h : Rd enc P w t cs) :
    cs = [.slice none 0 0] ∨ ∃ a len cap, cs = [.slice (some a) len cap] ∧ len ≤ cap ∧ cap ≤ 9223372036854775807 ∧
      ∀ i, i < len → ∃ r : List Value, r.length = P.cellsOf e ∧ Rd enc P w e r ∧ ∀ j, j < P.cellsOf e → w.cell? (a.add (i * P.cellsOf e + j)) = r[j]? := by
  obtain ⟨f, x, h⟩ := h
  rcases DataW.trod_slice ht h with ⟨h, _⟩ | ⟨a, len, cap, elems, rest, n, _, h1, _, _, h2, h3, h4, h5, _⟩
  · exact .inl h
  · refine .inr ⟨a, len, cap, h1, h2, by simpa [maxLen] using h3, fun i hi => ?_⟩
    have hb := h5 i hi
    rw [List.getElem?_eq_getElem (by omega)] at hb
    obtain ⟨r, hr, hd⟩ := Option.bind_eq_some_iff.1 hb
    obtain ⟨_, g1, g2⟩ := World.cells?_some hr
    refine ⟨r, g1, ⟨n, _, hd⟩, fun j hj => ?_⟩
    rw [← g2 j hj, Addr.add_add]
/-- A row, by how its elements read. -/
theorem rd_rows {α : Type} {f : α → List Value} {Good : α → Prop} {sz : Nat} (ht : P.underlying t = some (.slice e)) (hc : P.cellsOf e = sz) (h0 : 0 < sz) (hf : ∀ a, (f a).length = sz)
    (each : ∀ r, Rd enc P w e r → ∃ a, r = f a ∧ Good a) (h : Rd enc P w t cs) : ∃ (v : Value) (l : List α), cs = [v] ∧ Sl [Hp.of w] sz v l.length (l.flatMap f) ∧ ∀ a ∈ l, Good a := by
  subst hc
  rcases rd_slice ht h with rfl | ⟨a, len, cap, rfl, h1, h2, h3⟩
  · exact ⟨_, [], rfl, ⟨none, 0, rfl, Nat.le_refl _, by omega, by simp, fun g => by simp at g⟩, fun a ha => by cases ha⟩
  · have key : ∀ k, k ≤ len → ∃ l : List α, l.length = k ∧ (∀ a ∈ l, Good a) ∧ ∀ i v, (l.flatMap f)[i]? = some v → w.cell? (a.add i) = some v := by
      intro k
      induction k with
      | zero => intro _; exact ⟨[], rfl, fun a ha => (by cases ha), fun i v hv => by simp at hv⟩
      | succ k ih =>
        intro hk
        obtain ⟨l, hl, hg, hcell⟩ := ih (by omega)
        obtain ⟨r, hr, hd, hrc⟩ := h3 k (by omega)
        obtain ⟨y, rfl, hy⟩ := each r hd
        refine ⟨l ++ [y], by simp [hl], fun a ha => ?_, fun i v hv => ?_⟩
        · rcases List.mem_append.1 ha with g | g
          · exact hg a g
          · rw [List.mem_singleton.1 g]; exact hy
        · rw [List.flatMap_append, List.flatMap_cons, List.flatMap_nil, List.append_nil] at hv
          have hlen := flat_len hf l
          rcases Nat.lt_or_ge i (l.flatMap f).length with g | g
          · rw [List.getElem?_append_left g] at hv; exact hcell i v hv
          · rw [List.getElem?_append_right g] at hv
            have hj : i - (l.flatMap f).length < P.cellsOf e := by rw [← hr]; exact (List.getElem?_eq_some_iff.1 hv).1
            have := hrc (i - (l.flatMap f).length) hj
            rw [hv] at this
            rw [← this]; congr 2
            rw [hlen, hl] at g hj ⊢; omega
    obtain ⟨l, hl, hg, hcell⟩ := key len (Nat.le_refl _)
    refine ⟨_, l, rfl, ⟨some a, cap, by rw [hl], by omega, h2, flat_len hf l, fun g => ?_⟩, hg⟩
    obtain ⟨b, off, rfl, hc⟩ := cells_row (w := w) (x := a) (vs := l.flatMap f) (by rw [flat_len hf l]; exact Nat.mul_pos g h0) hcell
    exact ⟨b, off, rfl, hc⟩
theorem flat_one {α : Type} (f : α → Value) : ∀ l : List α, l.flatMap (fun a => [f a]) = l.map f
  | [] => rfl
  | a :: l => by rw [List.flatMap_cons, flat_one f l]; rfl
theorem rd_row1 {α : Type} {f : α → Value} {Good : α → Prop} (ht : P.underlying t = some (.slice e)) (hc : P.cellsOf e = 1)
    (each : ∀ r, Rd enc P w e r → ∃ a, r = [f a] ∧ Good a) (h : Rd enc P w t cs) : ∃ (v : Value) (l : List α), cs = [v] ∧ Sl [Hp.of w] 1 v l.length (l.map f) ∧ ∀ a ∈ l, Good a := by
  obtain ⟨v, l, h1, h2, h3⟩ := rd_rows (f := fun a => [f a]) ht hc (by omega) (fun _ => rfl) each h
  exact ⟨v, l, h1, by rw [flat_one] at h2; exact h2, h3⟩
/-- bounds of an int -/
def I64 (n : Int) : Prop := -9223372036854775808 ≤ n ∧ n ≤ 9223372036854775807
theorem rd_ints (ht : P.underlying t = some (.slice e)) (he : P.underlying e = some (.int .i64)) (hc : P.cellsOf e = 1) (h : Rd enc P w t cs) : ∃ (v : Value) (l : List Int), cs = [v] ∧ Ints [Hp.of w] v l ∧ ∀ a ∈ l, I64 a :=
  rd_row1 ht hc (fun r hr => rd_i64 he hr) h
theorem rd_strings (ht : P.underlying t = some (.slice e)) (he : P.underlying e = some .string) (hc : P.cellsOf e = 1) (h : Rd enc P w t cs) : ∃ (v : Value) (l : List (List UInt8)), cs = [v] ∧ Sl [Hp.of w] 1 v l.length (l.map S) ∧ ∀ a ∈ l, a.length ≤ 9223372036854775807 :=
  rd_row1 ht hc (fun r hr => rd_string he hr) h
/-- a value of a type of one cell is its cell -/
theorem val_one {r : Reach} {b0 : Nat} {v u : Value} (hn : match P.underlying t with | some (.struct _) => False | some (.array _ _) => False | _ => True) (hval : Value.okWide P w r b0 t v) (h : v.cells.toList = [u]) : v = u := by
  cases v with
  | agg c =>
    unfold Value.okWide at hval
    cases hu : P.underlying t with
    | none => rw [hu] at hval; simp [Cell.okWide, Cell.ok, hu] at hval
    | some d => rw [hu] at hn hval; cases d <;> first | exact hn.elim | (simp [Cell.okWide, Cell.ok, hu] at hval)
  | _ => simpa [Value.cells] using h
end
end Go.Q
namespace Go.Q
section
variable {H : Type} {enc : TypeId × Value → H} {P : Program} {w : World} {t e : TypeId} {cs : List Value}
/-- These cells read as a value of the type, and each text and row in it is within the reach. -/
def RdS (enc : TypeId × Value → H) (P : Program) (w : World) (t : TypeId) (cs : List Value) : Prop := ∃ fuel x, DataW.trod enc P w 0 (fun _ => true) true fuel t cs = some x ∧ ∀ n ∈ DataW.weights P t x.1, n ≤ reachBytes
theorem RdS.rd (h : RdS enc P w t cs) : Rd enc P w t cs := let ⟨f, x, h, _⟩ := h; ⟨f, x, h⟩
theorem rds_of {v : Value} {d : DataW H} {ps : List MemPlace} (h : DataW.Trod enc P w 0 (fun _ => true) true t v d ps) {ts : List TypeId} {ds : List (DataW H)} (hs : (DataW.weightsEach P ts ds).all (· ≤ reachBytes) = true) {j : Nat} (ht : ts[j]? = some t) (hd : ds[j]? = some d) : RdS enc P w t v.cells.toList :=
  ⟨h.choose, _, h.choose_spec, fun n hn => by simpa using List.all_eq_true.1 hs n (DataW.weights_mem_each ht hd n hn)⟩
theorem rds_string (ht : P.underlying t = some .string) (h : RdS enc P w t cs) : ∃ l : List UInt8, cs = [S l] ∧ l.length ≤ 140737488355328 := by
  obtain ⟨f, x, h, hw⟩ := h
  obtain ⟨s, h1, hx, _⟩ := DataW.trod_string ht h
  refine ⟨s.data.toList, by rw [h1, S_of], ?_⟩
  have := hw s.data.toList.length (by rw [hx]; simp [DataW.weights])
  have := reachBytes_lt
  omega
theorem mem_all {H : Type} {P : Program} {t : TypeId} : ∀ {ds : List (DataW H)} {d : DataW H}, d ∈ ds → ∀ n ∈ DataW.weights P t d, n ∈ DataW.weightsAll P t ds
  | d0 :: ds, d, h, n, hn => by
    simp only [DataW.weightsAll, List.mem_append]
    rcases List.mem_cons.1 h with rfl | h
    · exact .inl hn
    · exact .inr (mem_all h n hn)
theorem rds_struct {fs : Array Field} (ht : P.underlying t = some (.struct fs)) (h : RdS enc P w t cs) :
    cs.length = P.cellsOf t ∧ ∀ (i : Nat) (f : Field), fs[i]? = some f → RdS enc P w f.type ((cs.drop f.offset).take (P.cellsOf f.type)) := by
  obtain ⟨f, x, h, hw⟩ := h
  obtain ⟨xs, n, _, hx, h1, h2, h3⟩ := DataW.trod_struct ht h
  refine ⟨h1, fun i f hf => ?_⟩
  have hi : i < xs.length := by rw [h2]; exact (Array.getElem?_eq_some_iff.1 hf).1
  refine ⟨n, xs[i], by rw [h3 i f hf, List.getElem?_eq_getElem hi], fun m hm => hw m ?_⟩
  rw [hx]
  simp only [DataW.weights, ht]
  refine DataW.weights_mem_each (j := i) (t := f.type) (d := xs[i].1) ?_ ?_ m hm
  · rw [List.getElem?_map]; simpa using congrArg (Option.map (·.type)) hf
  · rw [List.getElem?_map, List.getElem?_eq_getElem hi]; rfl
theorem rds_field {fs : Array Field} {i k : Nat} {f : Field} {T : TypeId} {ds : List Value} (hf : ∀ (i : Nat) (f : Field), fs[i]? = some f → RdS enc P w f.type ((cs.drop f.offset).take (P.cellsOf f.type)))
    (h : fs[i]? = some f) (hT : f.type = T) (hc : P.cellsOf T = k) (hd : (cs.drop f.offset).take k = ds) : RdS enc P w T ds := by
  have g := hf i f h
  rw [hT, hc, hd] at g
  exact g
theorem rds_slice (ht : P.underlying t = some (.slice e)) (h : RdS enc P w t cs) :
    cs = [.slice none 0 0] ∨ ∃ a len cap, cs = [.slice (some a) len cap] ∧ len ≤ cap ∧ cap ≤ 9223372036854775807 ∧ len * P.bytesOf e ≤ 140737488355328 ∧
      ∀ i, i < len → ∃ r : List Value, r.length = P.cellsOf e ∧ RdS enc P w e r ∧ ∀ j, j < P.cellsOf e → w.cell? (a.add (i * P.cellsOf e + j)) = r[j]? := by
  obtain ⟨f, x, h, hw⟩ := h
  rcases DataW.trod_slice ht h with ⟨h, _⟩ | ⟨a, len, cap, elems, rest, n, _, h1, hx, _, h2, h3, h4, h5, _⟩
  · exact .inl h
  · refine .inr ⟨a, len, cap, h1, h2, by simpa [maxLen] using h3, ?_, fun i hi => ?_⟩
    · have h9 := hw (((elems.map (·.1)).length + (rest.map (·.1)).length) * P.bytesOf e) (by rw [hx]; simp [DataW.weights, ht])
      have h8 : len * P.bytesOf e ≤ ((elems.map (·.1)).length + (rest.map (·.1)).length) * P.bytesOf e := Nat.mul_le_mul_right _ (by rw [List.length_map]; omega)
      have := reachBytes_lt
      omega
    · have hb := h5 i hi
      rw [List.getElem?_eq_getElem (by omega)] at hb
      obtain ⟨r, hr, hd⟩ := Option.bind_eq_some_iff.1 hb
      obtain ⟨_, g1, g2⟩ := World.cells?_some hr
      refine ⟨r, g1, ⟨n, _, hd, fun m hm => hw m ?_⟩, fun j hj => ?_⟩
      · rw [hx]
        simp only [DataW.weights, ht]
        refine List.mem_cons_of_mem _ (List.mem_append_left _ (mem_all (d := (elems[i]'(by omega)).1) ?_ m hm))
        exact List.mem_map.2 ⟨_, List.getElem_mem _, rfl⟩
      · rw [← g2 j hj, Addr.add_add]
theorem rds_rows {α : Type} {f : α → List Value} {Good : α → Prop} {sz : Nat} (ht : P.underlying t = some (.slice e)) (hc : P.cellsOf e = sz) (h0 : 0 < sz) (hf : ∀ a, (f a).length = sz)
    (each : ∀ r, RdS enc P w e r → ∃ a, r = f a ∧ Good a) (h : RdS enc P w t cs) : ∃ (v : Value) (l : List α), cs = [v] ∧ Sl [Hp.of w] sz v l.length (l.flatMap f) ∧ (∀ a ∈ l, Good a) ∧ l.length * P.bytesOf e ≤ 140737488355328 := by
  subst hc
  rcases rds_slice ht h with rfl | ⟨a, len, cap, rfl, h1, h2, hby, h3⟩
  · exact ⟨_, [], rfl, ⟨none, 0, rfl, Nat.le_refl _, by omega, by simp, fun g => by simp at g⟩, fun a ha => (by cases ha), by simp⟩
  · have key : ∀ k, k ≤ len → ∃ l : List α, l.length = k ∧ (∀ a ∈ l, Good a) ∧ ∀ i v, (l.flatMap f)[i]? = some v → w.cell? (a.add i) = some v := by
      intro k
      induction k with
      | zero => intro _; exact ⟨[], rfl, fun a ha => (by cases ha), fun i v hv => by simp at hv⟩
      | succ k ih =>
        intro hk
        obtain ⟨l, hl, hg, hcell⟩ := ih (by omega)
        obtain ⟨r, hr, hd, hrc⟩ := h3 k (by omega)
        obtain ⟨y, rfl, hy⟩ := each r hd
        refine ⟨l ++ [y], by simp [hl], fun a ha => ?_, fun i v hv => ?_⟩
        · rcases List.mem_append.1 ha with g | g
          · exact hg a g
          · rw [List.mem_singleton.1 g]; exact hy
        · rw [List.flatMap_append, List.flatMap_cons, List.flatMap_nil, List.append_nil] at hv
          have hlen := flat_len hf l
          rcases Nat.lt_or_ge i (l.flatMap f).length with g | g
          · rw [List.getElem?_append_left g] at hv; exact hcell i v hv
          · rw [List.getElem?_append_right g] at hv
            have hj : i - (l.flatMap f).length < P.cellsOf e := by rw [← hr]; exact (List.getElem?_eq_some_iff.1 hv).1
            have := hrc (i - (l.flatMap f).length) hj
            rw [hv] at this
            rw [← this]; congr 2
            rw [hlen, hl] at g hj ⊢; omega
    obtain ⟨l, hl, hg, hcell⟩ := key len (Nat.le_refl _)
    refine ⟨_, l, rfl, ⟨some a, cap, by rw [hl], by omega, h2, flat_len hf l, fun g => ?_⟩, hg, by rw [hl]; exact hby⟩
    obtain ⟨b, off, rfl, hc⟩ := cells_row (w := w) (x := a) (vs := l.flatMap f) (by rw [flat_len hf l]; exact Nat.mul_pos g h0) hcell
    exact ⟨b, off, rfl, hc⟩
theorem rds_row1 {α : Type} {f : α → Value} {Good : α → Prop} (ht : P.underlying t = some (.slice e)) (hc : P.cellsOf e = 1)
    (each : ∀ r, RdS enc P w e r → ∃ a, r = [f a] ∧ Good a) (h : RdS enc P w t cs) : ∃ (v : Value) (l : List α), cs = [v] ∧ Sl [Hp.of w] 1 v l.length (l.map f) ∧ (∀ a ∈ l, Good a) ∧ l.length * P.bytesOf e ≤ 140737488355328 := by
  obtain ⟨v, l, h1, h2, h3⟩ := rds_rows (f := fun a => [f a]) ht hc (by omega) (fun _ => rfl) each h
  exact ⟨v, l, h1, by rw [flat_one] at h2; exact h2, h3⟩
theorem rds_strings (ht : P.underlying t = some (.slice e)) (he : P.underlying e = some .string) (hc : P.cellsOf e = 1) (h : RdS enc P w t cs) : ∃ (v : Value) (l : List (List UInt8)), cs = [v] ∧ Sl [Hp.of w] 1 v l.length (l.map sV) ∧ (∀ a ∈ l, a.length ≤ 140737488355328) ∧ l.length * P.bytesOf e ≤ 140737488355328 :=
  rds_row1 (f := sV) ht hc (fun r hr => rds_string he hr) h
end
end Go.Q
namespace Go.Q
structure DAct where
  kind : Int
  n : Int
  other : Bool
  dv : Value
  data : List Bs
  kv : Value
  keep : List Int
def daC (a : DAct) : List Value := [iV a.kind, iV a.n, .bool a.other, a.dv, a.kv]
theorem daC_len (a : DAct) : (daC a).length = 5 := rfl
/-- An act whose rows read. -/
def DaOk (R : List Hp) (a : DAct) : Prop := Sl R 1 a.dv a.data.length (a.data.map sV) ∧ Ints R a.kv a.keep ∧ (∀ t ∈ a.data, t.length ≤ 140737488355328) ∧ -9223372036854775808 ≤ a.n ∧ a.n ≤ 9223372036854775807
theorem DaOk.mono {R R' : List Hp} {a : DAct} (h : DaOk R a) (hs : R ⊆ R') : DaOk R' a := ⟨h.1.mono hs, h.2.1.mono hs, h.2.2⟩
/-- An act that is not too great. -/
def DFin (a : DAct) : Prop := a.data.length ≤ 6 ∧ a.data.flatten.length ≤ 200 ∧ a.keep.length ≤ 40
def DFine (l : List DAct) : Prop := l.length ≤ 60 ∧ ∀ a ∈ l, DFin a
theorem DFine.snoc {l : List DAct} {k : Nat} {x : DAct} (h : ∀ a ∈ l.take k, DFin a) (hx : l[k]? = some x) (hf : DFin x) : ∀ a ∈ l.take (k + 1), DFin a := by
  rw [List.take_add_one, hx]
  intro y hy
  rcases List.mem_append.1 hy with g | g
  · exact h y g
  · simp at g; rw [g]; exact hf
theorem flatten_take_succ {l : List Bs} {k : Nat} {x : Bs} (hx : l[k]? = some x) : (l.take (k + 1)).flatten = (l.take k).flatten ++ x := by
  rw [List.take_add_one, hx]; simp
theorem flatten_le {l : List Bs} {B : Nat} (h : ∀ t ∈ l, t.length ≤ B) : l.flatten.length ≤ l.length * B := by
  induction l with
  | nil => simp
  | cons a l ih =>
    have := ih fun t ht => h t (List.mem_cons_of_mem _ ht)
    have := h a List.mem_cons_self
    simp only [List.flatten_cons, List.length_append, List.length_cons, Nat.add_mul, Nat.one_mul]; omega
end Go.Q
namespace Go.Q
structure AAct where
  kind : Int
  at_ : Int
  size : Int
  dv : Value
  data : List Bs
  kv : Value
  keep : List Int
def aaC (a : AAct) : List Value := [iV a.kind, iV a.at_, iV a.size, a.dv, a.kv]
theorem aaC_len (a : AAct) : (aaC a).length = 5 := rfl
def AaOk (R : List Hp) (a : AAct) : Prop := Sl R 1 a.dv a.data.length (a.data.map sV) ∧ Ints R a.kv a.keep ∧ (∀ t ∈ a.data, t.length ≤ 140737488355328)
theorem AaOk.mono {R R' : List Hp} {a : AAct} (h : AaOk R a) (hs : R ⊆ R') : AaOk R' a := ⟨h.1.mono hs, h.2.1.mono hs, h.2.2⟩
def AFin (a : AAct) : Prop := a.data.length ≤ 6 ∧ a.data.flatten.length ≤ 2000 ∧ a.keep.length ≤ 40
def AFine (l : List AAct) : Prop := l.length ≤ 30 ∧ ∀ a ∈ l, AFin a
theorem AFine.snoc {l : List AAct} {k : Nat} {x : AAct} (h : ∀ a ∈ l.take k, AFin a) (hx : l[k]? = some x) (hf : AFin x) : ∀ a ∈ l.take (k + 1), AFin a := by
  rw [List.take_add_one, hx]
  intro y hy
  rcases List.mem_append.1 hy with g | g
  · exact h y g
  · simp at g; rw [g]; exact hf
theorem full_blank (k : Nat) : Full64 (List.replicate k blankS) := fun s hs => by rw [(List.mem_replicate.1 hs).2]; rfl
/-- What is set in one area leaves what is got of another one. -/
theorem apart_get {la : List Bs} {lo : List (Int × Bs)} {all : Bs} {f1 n1 a1 s1 f2 n2 a2 s2 : Int} (hn1 : 0 < n1) (hn2 : 0 < n2) (h0 : 0 ≤ f1) (h : f1 + n1 ≤ f2) :
    getP la (setP la (allP f2 (n2 * 64) (a2 % (n2 * 64)) s2) lo all) (allP f1 (n1 * 64) (a1 % (n1 * 64)) s1) = getP la lo (allP f1 (n1 * 64) (a1 % (n1 * 64)) s1) := by
  refine getP_congr fun p hp => ?_
  have hp1 := pieces_ok hn1 _ _ _ (Int.emod_nonneg _ (by omega)) (Int.emod_lt_of_pos _ (by omega)) p hp
  refine setP_other _ _ _ fun q hq => ?_
  have hq1 := pieces_ok hn2 _ _ _ (Int.emod_nonneg _ (by omega)) (Int.emod_lt_of_pos _ (by omega)) q hq
  unfold PcOk at hp1 hq1
  omega
end Go.Q
namespace Go.Q
/-- the bytes of an area, told by a row -/
def Cn (now : Bs) (la : List Bs) (lo : List (Int × Bs)) (fr n : Nat) : Prop := now.length = n * 64 ∧ ∀ i, i < n * 64 → now[i]? = (nowAt la lo (fr + i / 64))[i % 64]?
def rdR (now : Bs) (a L k : Nat) : Bs := (List.range k).map fun j => (now[(a + j) % L]?).getD 0
def wrR (now : Bs) (a L : Nat) (s : Bs) (k : Nat) : Bs := (List.range k).foldl (fun c j => c.set ((a + j) % L) ((s[j]?).getD 0)) now
theorem rdR_succ (now : Bs) (a L k : Nat) : rdR now a L (k + 1) = rdR now a L k ++ [(now[(a + k) % L]?).getD 0] := by
  unfold rdR; rw [List.range_succ, List.map_append]; rfl
theorem wrR_succ (now : Bs) (a L : Nat) (s : Bs) (k : Nat) : wrR now a L s (k + 1) = (wrR now a L s k).set ((a + k) % L) ((s[k]?).getD 0) := by
  unfold wrR; rw [List.range_succ, List.foldl_append]; rfl
theorem wrR_len (now : Bs) (a L : Nat) (s : Bs) : ∀ k, (wrR now a L s k).length = now.length
  | 0 => rfl
  | k + 1 => by rw [wrR_succ, List.length_set, wrR_len]
theorem rdR_len (now : Bs) (a L k : Nat) : (rdR now a L k).length = k := by unfold rdR; simp
theorem rdR_add (now : Bs) (a L d : Nat) : ∀ k, rdR now a L (d + k) = rdR now a L d ++ rdR now ((a + d) % L) L k
  | 0 => by simp [rdR]
  | k + 1 => by
    rw [← Nat.add_assoc, rdR_succ, rdR_add now a L d k, rdR_succ, List.append_assoc]
    rw [show ((a + d) % L + k) % L = (a + (d + k)) % L by rw [Nat.mod_add_mod, Nat.add_assoc]]
theorem wrR_add (now : Bs) (a L : Nat) (s : Bs) (d : Nat) : ∀ k, wrR now a L s (d + k) = wrR (wrR now a L s d) ((a + d) % L) L (s.drop d) k
  | 0 => rfl
  | k + 1 => by
    rw [← Nat.add_assoc, wrR_succ, wrR_add now a L s d k, wrR_succ]
    rw [show ((a + d) % L + k) % L = (a + (d + k)) % L by rw [Nat.mod_add_mod, Nat.add_assoc], List.getElem?_drop]
theorem rdR_at (now : Bs) {a L k j : Nat} (hj : j < k) : (rdR now a L k)[j]? = some ((now[(a + j) % L]?).getD 0) := by
  unfold rdR; rw [List.getElem?_map, List.getElem?_range hj]; rfl
/-- bytes that don't go round -/
theorem wrR_at {now : Bs} {a L : Nat} {s : Bs} (hL : now.length = L) : ∀ k, a + k ≤ L → ∀ i, i < L → (wrR now a L s k)[i]? = if a ≤ i ∧ i < a + k then some ((s[i - a]?).getD 0) else now[i]?
  | 0, _, i, _ => by rw [if_neg (by omega)]; rfl
  | k + 1, hk, i, hi => by
    rw [wrR_succ, Nat.mod_eq_of_lt (by omega), List.getElem?_set, wrR_len]
    by_cases e : a + k = i
    · rw [if_pos e, if_pos (by omega), if_pos (by omega), ← e, Nat.add_sub_cancel_left]
    · rw [if_neg e, wrR_at hL k (by omega) i hi]
      by_cases g : a ≤ i ∧ i < a + k
      · rw [if_pos g, if_pos (by omega)]
      · rw [if_neg g, if_neg (by omega)]
theorem piece1_nat {fr a z : Nat} (hz : 0 < z) : piece1 (fr : Int) (a : Int) (z : Int) = ⟨((fr + a / 64 : Nat) : Int), ((a % 64 : Nat) : Int), ((min (a % 64 + z) 64 : Nat) : Int)⟩ := by
  unfold piece1; congr 1 <;> omega
def dN (a z : Nat) : Nat := min (a % 64 + z) 64 - a % 64
theorem dN_ok {a z : Nat} (hz : 0 < z) : 0 < dN a z ∧ dN a z ≤ z ∧ a % 64 + dN a z ≤ 64 ∧ min (a % 64 + z) 64 = a % 64 + dN a z := by
  unfold dN; omega
theorem pieces_nat {fr L a z f : Nat} (hz : 0 < z) : piecesS (fr : Int) (L : Int) (f + 1) (a : Int) (z : Int) = ⟨((fr + a / 64 : Nat) : Int), ((a % 64 : Nat) : Int), ((a % 64 + dN a z : Nat) : Int)⟩ :: piecesS (fr : Int) (L : Int) f (((a + dN a z) % L : Nat) : Int) ((z - dN a z : Nat) : Int) := by
  obtain ⟨h1, h2, h3, h4⟩ := dN_ok (a := a) hz
  rw [piecesS, if_neg (by omega), piece1_nat hz, h4]
  simp only
  rw [show (a : Int) + (((a % 64 + dN a z : Nat) : Int) - ((a % 64 : Nat) : Int)) = ((a + dN a z : Nat) : Int) by omega, show (z : Int) - (((a % 64 + dN a z : Nat) : Int) - ((a % 64 : Nat) : Int)) = ((z - dN a z : Nat) : Int) by omega]
  rfl
theorem ring_get {now : Bs} {la : List Bs} {lo : List (Int × Bs)} {fr n : Nat} (h : Cn now la lo fr n) (h64 : ∀ j, j < n → (nowAt la lo (fr + j)).length = 64) : ∀ (f a z : Nat), a < n * 64 → z ≤ f → getP la lo (piecesS (fr : Int) ((n * 64 : Nat) : Int) f (a : Int) (z : Int)) = rdR now a (n * 64) z
  | f, a, 0, _, _ => by cases f <;> rfl
  | 0, a, z + 1, _, h => by omega
  | f + 1, a, z + 1, ha, hf => by
    obtain ⟨h1, h2, h3, h4⟩ := dN_ok (a := a) (z := z + 1) (by omega)
    rw [pieces_nat (by omega)]
    have hr := ring_get h h64 f ((a + dN a (z + 1)) % (n * 64)) (z + 1 - dN a (z + 1)) (Nat.mod_lt _ (by omega)) (by omega)
    unfold getP at hr ⊢
    rw [List.flatMap_cons, hr]
    have hs : rdR now a (n * 64) (z + 1) = rdR now a (n * 64) (dN a (z + 1)) ++ rdR now ((a + dN a (z + 1)) % (n * 64)) (n * 64) (z + 1 - dN a (z + 1)) := by
      rw [← rdR_add]; congr 1; omega
    rw [hs]
    congr 1
    have hlen := h64 (a / 64) (by omega)
    unfold partP
    simp only [Int.toNat_natCast]
    refine List.ext_getElem? fun j => ?_
    rw [List.getElem?_drop, List.getElem?_take]
    by_cases hj : j < dN a (z + 1)
    · rw [if_pos (by omega), rdR_at now hj, Nat.mod_eq_of_lt (show a + j < n * 64 by omega), h.2 _ (by omega), show (a + j) / 64 = a / 64 by omega, show (a + j) % 64 = a % 64 + j by omega, List.getElem?_eq_getElem (by omega)]; rfl
    · rw [if_neg (by omega), List.getElem?_eq_none (by rw [rdR_len]; omega)]
theorem nowAt_put {la : List Bs} {lo : List (Int × Bs)} {s : Bs} {m j : Nat} : nowAt la (putB lo (m : Int) s) j = if j = m then s else nowAt la lo j := by
  unfold nowAt
  rw [getB_put]
  by_cases e : j = m
  · subst e; rw [if_pos rfl, if_pos rfl]; rfl
  · rw [if_neg (by omega), if_neg e]
theorem put1_len2 {la : List Bs} {lo : List (Int × Bs)} {m r d : Nat} {all : Bs} (hl : (nowAt la lo m).length = 64) (hd : r + d ≤ 64) (ha : d ≤ all.length) : (putA1 la lo ⟨(m : Int), (r : Int), ((r + d : Nat) : Int)⟩ all).length = 64 := by
  unfold putA1
  simp only [Int.toNat_natCast, List.length_append, List.length_take, List.length_drop, hl]; omega
theorem ring_set1 {now : Bs} {la : List Bs} {lo : List (Int × Bs)} {fr n a d : Nat} {all : Bs} (h : Cn now la lo fr n) (h64 : ∀ j, j < n → (nowAt la lo (fr + j)).length = 64) (ha : a < n * 64) (hd : a % 64 + d ≤ 64) (hal : d ≤ all.length) :
    Cn (wrR now a (n * 64) all d) la (putB lo ((fr + a / 64 : Nat) : Int) (fillS (putA1 la lo ⟨((fr + a / 64 : Nat) : Int), ((a % 64 : Nat) : Int), ((a % 64 + d : Nat) : Int)⟩ all))) fr n := by
  have hl := h64 (a / 64) (by omega)
  have hp := put1_len2 (la := la) (lo := lo) (all := all) hl hd hal
  have hfill : ∀ s : Bs, s.length = 64 → fillS s = s := fun s hs => by unfold fillS; rw [hs, List.drop_eq_nil_of_le (by rw [blank_len]; omega), List.append_nil]
  rw [hfill _ hp]
  refine ⟨by rw [wrR_len]; exact h.1, fun i hi => ?_⟩
  rw [wrR_at h.1 d (by omega) i hi, nowAt_put]
  by_cases e : i / 64 = a / 64
  · rw [if_pos (show fr + i / 64 = fr + a / 64 by omega)]
    unfold putA1
    simp only [Int.toNat_natCast]
    by_cases g : a ≤ i ∧ i < a + d
    · rw [if_pos g, List.getElem?_append_right (by rw [List.length_take]; omega), List.length_take, hl, List.getElem?_append_left (by rw [List.length_take]; omega), List.getElem?_take, if_pos (by omega)]
      rw [show i % 64 - min (a % 64) 64 = i - a by omega, List.getElem?_eq_getElem (by omega)]; rfl
    · rw [if_neg g, h.2 i hi, e]
      by_cases g2 : i < a
      · rw [List.getElem?_append_left (by rw [List.length_take]; omega), List.getElem?_take, if_pos (by omega)]
      · rw [List.getElem?_append_right (by rw [List.length_take]; omega), List.length_take, hl, List.getElem?_append_right (by rw [List.length_take]; omega), List.length_take, List.getElem?_drop]
        congr 1; omega
  · rw [if_neg (show ¬ (a ≤ i ∧ i < a + d) by omega), if_neg (show ¬ fr + i / 64 = fr + a / 64 by omega), h.2 i hi]
theorem ring_set {la : List Bs} {fr n : Nat} : ∀ (f a : Nat) (z : Nat) (now : Bs) (lo : List (Int × Bs)) (all : Bs), Cn now la lo fr n → (∀ j, j < n → (nowAt la lo (fr + j)).length = 64) → a < n * 64 → z ≤ f → z ≤ all.length →
    Cn (wrR now a (n * 64) all z) la (setP la (piecesS (fr : Int) ((n * 64 : Nat) : Int) f (a : Int) (z : Int)) lo all) fr n
  | f, a, 0, now, lo, all, h, _, _, _, _ => by cases f <;> exact h
  | 0, a, z + 1, _, _, _, _, _, _, h, _ => by omega
  | f + 1, a, z + 1, now, lo, all, h, h64, ha, hf, hz => by
    obtain ⟨h1, h2, h3, h4⟩ := dN_ok (a := a) (z := z + 1) (by omega)
    rw [pieces_nat (by omega), setP]
    have hs : wrR now a (n * 64) all (z + 1) = wrR (wrR now a (n * 64) all (dN a (z + 1))) ((a + dN a (z + 1)) % (n * 64)) (n * 64) (all.drop (dN a (z + 1))) (z + 1 - dN a (z + 1)) := by
      rw [← wrR_add]; congr 1; omega
    rw [hs]
    simp only
    rw [show (((a % 64 + dN a (z + 1) : Nat) : Int) - ((a % 64 : Nat) : Int)).toNat = dN a (z + 1) by omega]
    refine ring_set f _ _ _ _ _ (ring_set1 h h64 ha h3 (by omega)) (fun j hj => ?_) (Nat.mod_lt _ (by omega)) (by omega) (by rw [List.length_drop]; omega)
    rw [nowAt_put]
    split
    · rw [fill_len (by rw [put1_len2 (h64 _ (by omega)) h3 (by omega)]; omega)]
    · exact h64 j hj
theorem area_now (la : List Bs) (lo : List (Int × Bs)) (fr n : Nat) (h64 : ∀ j, j < n → (nowAt la lo (fr + j)).length = 64) : ∃ now, Cn now la lo fr n := by
  refine ⟨(List.range (n * 64)).map fun i => ((nowAt la lo (fr + i / 64))[i % 64]?).getD 0, by simp, fun i hi => ?_⟩
  have hl := h64 (i / 64) (by omega)
  rw [List.getElem?_map, List.getElem?_range hi, Option.map_some, List.getElem?_eq_getElem (by omega)]; rfl
theorem area_64 {la : List Bs} {lo : List (Int × Bs)} (h64 : Full64 la) (hlo : LoOk lo la.length) {fr n : Int} (hfr : 0 ≤ fr) (hn : 1 ≤ n) (hfn : fr + n ≤ la.length) : ∀ j, j < n.toNat → (nowAt la lo (fr.toNat + j)).length = 64 := fun j hj => nowAt_len h64 hlo (by omega)
theorem getP_now {now : Bs} {la : List Bs} {lo : List (Int × Bs)} {fr n a z : Int} (h : Cn now la lo fr.toNat n.toNat) (h64 : ∀ j, j < n.toNat → (nowAt la lo (fr.toNat + j)).length = 64) (hfr : 0 ≤ fr) (hn : 1 ≤ n) (ha : 0 ≤ a ∧ a < n * 64) (hz : 0 ≤ z) :
    getP la lo (allP fr (n * 64) a z) = rdR now a.toNat (n.toNat * 64) z.toNat := by
  have := ring_get h h64 z.toNat a.toNat z.toNat (by omega) (Nat.le_refl _)
  unfold allP
  rw [show ((n.toNat * 64 : Nat) : Int) = n * 64 by omega, show ((fr.toNat : Nat) : Int) = fr by omega, show ((a.toNat : Nat) : Int) = a by omega, show ((z.toNat : Nat) : Int) = z by omega] at this
  exact this
theorem getP_len {la : List Bs} {lo : List (Int × Bs)} {fr n a z : Int} (h64 : Full64 la) (hlo : LoOk lo la.length) (hfr : 0 ≤ fr) (hn : 1 ≤ n) (hfn : fr + n ≤ la.length) (ha : 0 ≤ a ∧ a < n * 64) (hz : 0 ≤ z) : (getP la lo (allP fr (n * 64) a z)).length = z.toNat := by
  obtain ⟨now, h⟩ := area_now la lo fr.toNat n.toNat (area_64 h64 hlo hfr hn hfn)
  rw [getP_now h (area_64 h64 hlo hfr hn hfn) hfr hn ha hz, rdR_len]
theorem rdR_all {now : Bs} {L : Nat} (h : now.length = L) : rdR now 0 L L = now := by
  refine List.ext_getElem? fun i => ?_
  by_cases hi : i < L
  · rw [rdR_at now hi, Nat.zero_add, Nat.mod_eq_of_lt hi, List.getElem?_eq_getElem (by omega)]; rfl
  · rw [List.getElem?_eq_none (by rw [rdR_len]; omega), List.getElem?_eq_none (by omega)]
theorem getP_all {now : Bs} {la : List Bs} {lo : List (Int × Bs)} {fr n : Int} (h : Cn now la lo fr.toNat n.toNat) (h64 : ∀ j, j < n.toNat → (nowAt la lo (fr.toNat + j)).length = 64) (hfr : 0 ≤ fr) (hn : 1 ≤ n) : getP la lo (allP fr (n * 64) (0 % (n * 64)) (n * 64)) = now := by
  rw [Int.zero_emod, getP_now h h64 hfr hn ⟨by omega, by omega⟩ (by omega), show (n * 64).toNat = n.toNat * 64 by omega]
  exact rdR_all h.1
theorem setP_now {now : Bs} {la : List Bs} {lo : List (Int × Bs)} {fr n a : Int} {all : Bs} (h : Cn now la lo fr.toNat n.toNat) (h64 : ∀ j, j < n.toNat → (nowAt la lo (fr.toNat + j)).length = 64) (hfr : 0 ≤ fr) (hn : 1 ≤ n) (ha : 0 ≤ a ∧ a < n * 64) :
    Cn (wrR now a.toNat (n.toNat * 64) all all.length) la (setP la (allP fr (n * 64) a (all.length : Int)) lo all) fr.toNat n.toNat := by
  have := ring_set (la := la) (fr := fr.toNat) (n := n.toNat) all.length a.toNat all.length now lo all h h64 (by omega) (Nat.le_refl _) (Nat.le_refl _)
  unfold allP
  rw [show ((n.toNat * 64 : Nat) : Int) = n * 64 by omega, show ((fr.toNat : Nat) : Int) = fr by omega, show ((a.toNat : Nat) : Int) = a by omega] at this
  exact this
theorem setP_out {la : List Bs} {lo : List (Int × Bs)} {fr n a : Int} {all : Bs} {j : Nat} (hn : 1 ≤ n) (ha : 0 ≤ a ∧ a < n * 64) (hj : (j : Int) < fr ∨ fr + n ≤ (j : Int)) : nowAt la (setP la (allP fr (n * 64) a (all.length : Int)) lo all) j = nowAt la lo j :=
  setP_other _ _ _ fun p hp => by
    obtain ⟨h1, h2, _⟩ := pieces_ok (fr := fr) (n := n) (by omega) _ _ _ ha.1 ha.2 p hp
    omega
theorem cn_congr {now : Bs} {la la' : List Bs} {lo lo' : List (Int × Bs)} {fr n : Nat} (h : Cn now la lo fr n) (he : ∀ j, nowAt la' lo' j = nowAt la lo j) : Cn now la' lo' fr n := ⟨h.1, fun i hi => by rw [he]; exact h.2 i hi⟩
theorem cn_blank {k fr n : Nat} (h : fr + n ≤ k) : Cn (List.replicate (n * 64) 0) (List.replicate k blankS) [] fr n := by
  refine ⟨by rw [List.length_replicate], fun i hi => ?_⟩
  unfold nowAt
  rw [show getB ([] : List (Int × Bs)) ((fr + i / 64 : Nat) : Int) = none from rfl, Option.getD_none, List.getElem?_replicate, if_pos hi, List.getElem?_replicate, if_pos (by omega)]
  show some 0 = (List.replicate 64 (0 : UInt8))[i % 64]?
  rw [List.getElem?_replicate, if_pos (by omega)]
/-- behind a Sync the sectors are as they were -/
theorem sync_nowAt {p : Pw} {k : Nat} (h : Calm p k) {la : List Bs} {lo : List (Int × Bs)} (hlo : LoOk lo la.length) (j : Nat) (hj : j < la.length) : nowAt (syncA p la lo) (syncO p lo) j = nowAt la lo j := by
  obtain ⟨_, h1, h2⟩ := sync_calm h la lo
  rw [h1, h2, now_sync hlo]
  show Option.getD none _ = _
  rw [Option.getD_none, now_get hj]; rfl
theorem sync_len {p : Pw} {k : Nat} (h : Calm p k) {la : List Bs} {lo : List (Int × Bs)} (hlo : LoOk lo la.length) : (syncA p la lo).length = la.length := by
  obtain ⟨_, h1, _⟩ := sync_calm h la lo
  rw [h1, now_sync hlo, now_len]
theorem cn_sync {p : Pw} {k : Nat} (h : Calm p k) {now : Bs} {la : List Bs} {lo : List (Int × Bs)} (hlo : LoOk lo la.length) {fr n : Nat} (hfn : fr + n ≤ la.length) (hc : Cn now la lo fr n) : Cn now (syncA p la lo) (syncO p lo) fr n :=
  ⟨hc.1, fun i hi => by rw [sync_nowAt h hlo _ (by omega)]; exact hc.2 i hi⟩
theorem full_sync {p : Pw} {k : Nat} (h : Calm p k) {la : List Bs} {lo : List (Int × Bs)} (hlo : LoOk lo la.length) (hf : Full64 la) : Full64 (syncA p la lo) := by
  obtain ⟨_, h1, _⟩ := sync_calm h la lo
  rw [h1, now_sync hlo]
  intro s hs
  obtain ⟨j, hj, rfl⟩ := List.mem_map.1 hs
  exact nowAt_len hf hlo (List.mem_range.1 hj)
theorem ok_sync {p : Pw} {k : Nat} (h : Calm p k) {la : List Bs} {lo : List (Int × Bs)} : LoOk (syncO p lo) (syncA p la lo).length := by
  obtain ⟨_, _, h2⟩ := sync_calm h la lo
  rw [h2]; exact LoOk.nil _
theorem idxN {a n : Int} {kk : Nat} (ha : 0 ≤ a) (hn : 1 ≤ n) : ((a % (64 * n) + (kk : Int)) % (64 * n)).toNat = ((a % (n * 64)).toNat + kk) % (n.toNat * 64) := by
  rw [show 64 * n = n * 64 by omega, Int.toNat_emod (by have := Int.emod_nonneg a (show n * 64 ≠ 0 by omega); omega) (by omega), show (n * 64).toNat = n.toNat * 64 by omega]
  congr 1
  have := Int.emod_nonneg a (show n * 64 ≠ 0 by omega)
  omega
theorem wr_step {now nb s : Bs} {a L kk ix : Nat} {c : UInt8} (h : nb = wrR now a L s kk) (hi : ix = (a + kk) % L) (hc : s[kk]? = some c) : nb.set ix c = wrR now a L s (kk + 1) := by
  rw [wrR_succ, ← h, hi, hc]; rfl
theorem rd_step {now acc : Bs} {a L kk ix : Nat} {c : UInt8} (h : acc = rdR now a L kk) (hi : ix = (a + kk) % L) (hc : now[ix]? = some c) : acc ++ [c] = rdR now a L (kk + 1) := by
  rw [rdR_succ, ← h, ← hi, hc]; rfl
end Go.Q
namespace Go.Q
open Go.Proofs Go.Shelf
set_option maxRecDepth 100000
def trl_ren : Go.Shelf.Ren := ⟨fun | 160 => 16 | 232 => 35 | 231 => 34 | 227 => 36 | 234 => 38 | 233 => 37 | 236 => 40 | 235 => 39 | 228 => 57 | 271 => 60 | 151 => 59 | 197 => 58 | 120 => 72 | 152 => 71 | 260 => 70 | 137 => 78 | 119 => 79 | 224 => 80 | 225 => 81 | 217 => 93 | 266 => 100 | n => n, fun | 9 => 9 | 4 => 4 | 3 => 3 | 5 => 5 | 117 => 68 | 116 => 67 | 0 => 0 | 124 => 71 | 21 => 21 | 105 => 97 | 46 => 78 | 119 => 116 | 139 => 119 | 138 => 118 | n => n, fun | 3 => 1 | 4 => 2 | n => n⟩
theorem trl : Go.Proofs.Lays.n160 Tryd.prog trl_ren := {
  mixed := by kernel_rfl
  f119 := Tryd.func79.trans (congrArg some (by kernel_rfl))
  f120 := Tryd.func72.trans (congrArg some (by kernel_rfl))
  f137 := Tryd.func78.trans (congrArg some (by kernel_rfl))
  f151 := Tryd.func59.trans (congrArg some (by kernel_rfl))
  f152 := Tryd.func71.trans (congrArg some (by kernel_rfl))
  f160 := Tryd.func16.trans (congrArg some (by kernel_rfl))
  f197 := Tryd.func58.trans (congrArg some (by kernel_rfl))
  f217 := Tryd.func93.trans (congrArg some (by kernel_rfl))
  f224 := Tryd.func80.trans (congrArg some (by kernel_rfl))
  f225 := Tryd.func81.trans (congrArg some (by kernel_rfl))
  f227 := Tryd.func36.trans (congrArg some (by kernel_rfl))
  f228 := Tryd.func57.trans (congrArg some (by kernel_rfl))
  f231 := Tryd.func34.trans (congrArg some (by kernel_rfl))
  f232 := Tryd.func35.trans (congrArg some (by kernel_rfl))
  f233 := Tryd.func37.trans (congrArg some (by kernel_rfl))
  f234 := Tryd.func38.trans (congrArg some (by kernel_rfl))
  f235 := Tryd.func39.trans (congrArg some (by kernel_rfl))
  f236 := Tryd.func40.trans (congrArg some (by kernel_rfl))
  f260 := Tryd.func70.trans (congrArg some (by kernel_rfl))
  f266 := Tryd.func100.trans (congrArg some (by kernel_rfl))
  f271 := Tryd.func60.trans (congrArg some (by kernel_rfl))
  t0 := Tryd.underlying0
  a0 := Tryd.isAgg0
  z0 := Tryd.sizeOf0
  v0 := Tryd.zeroValue0
  t3 := Tryd.underlying3
  a3 := Tryd.isAgg3
  z3 := Tryd.sizeOf3
  v3 := Tryd.zeroValue3
  t4 := Tryd.underlying4
  a4 := Tryd.isAgg4
  z4 := Tryd.sizeOf4
  v4 := Tryd.zeroValue4
  t5 := Tryd.underlying5
  a5 := Tryd.isAgg5
  z5 := Tryd.sizeOf5
  v5 := Tryd.zeroValue5
  t9 := Tryd.underlying9
  a9 := Tryd.isAgg9
  z9 := Tryd.sizeOf9
  v9 := Tryd.zeroValue9
  t21 := Tryd.underlying21
  a21 := Tryd.isAgg21
  z21 := Tryd.sizeOf21
  v21 := Tryd.zeroValue21
  t46 := Tryd.underlying78
  a46 := Tryd.isAgg78
  z46 := Tryd.sizeOf78
  v46 := Tryd.zeroValue78
  t105 := Tryd.underlying97
  a105 := Tryd.isAgg97
  z105 := Tryd.sizeOf97
  v105 := Tryd.zeroValue97
  t116 := Tryd.underlying67
  a116 := Tryd.isAgg67
  z116 := Tryd.sizeOf67
  t117 := Tryd.underlying68
  a117 := Tryd.isAgg68
  z117 := Tryd.sizeOf68
  v117 := Tryd.zeroValue68
  t119 := Tryd.underlying116
  a119 := Tryd.isAgg116
  z119 := Tryd.sizeOf116
  t124 := Tryd.underlying71
  a124 := Tryd.isAgg71
  z124 := Tryd.sizeOf71
  v124 := Tryd.zeroValue71
  t138 := Tryd.underlying118
  a138 := Tryd.isAgg118
  z138 := Tryd.sizeOf118
  v138 := Tryd.zeroValue118
  t139 := Tryd.underlying119
  a139 := Tryd.isAgg119
  z139 := Tryd.sizeOf119
  v139 := Tryd.zeroValue119
  g3 := by kernel_rfl
  g4 := by kernel_rfl }

theorem strim_c {E w : World} {R : List Hp} (hH : Has E w [R]) (s : Bs) (hs : s.length ≤ 1000000) : Calls Tryd.prog 16 #[S s, S [0]] w fun e w' => e = .returned (S (Lib.trimB s 0)) ∧ Has E w' [R] := by
  refine (Any.strings_Trim_one trl ⟨s.toArray⟩ 0 (by decide) w (by simp only [ByteArray.size, List.size_toArray]; omega)).mono fun e w' h => ?_
  obtain ⟨h1, h2⟩ := h
  refine ⟨by rw [h1]; rfl, ?_⟩
  rcases h2 with h2 | h2
  · rw [h2]; exact hH
  · rw [h2]; exact Has0.drew hH _
theorem dropZ {s : Bs} : s.dropWhile (· == 0) = [] ↔ ∀ b ∈ s, b = 0 := by
  induction s with
  | nil => simp
  | cons x t ih =>
    rw [List.dropWhile_cons]
    by_cases h : x = 0
    · rw [if_pos (by simpa using h), ih]; simp [h]
    · rw [if_neg (by simpa using h)]; simp [h]
theorem trim_zero {s : Bs} : Lib.trimB s 0 = [] ↔ s = List.replicate s.length 0 := by
  unfold Lib.trimB Lib.trimLeftB Lib.trimRightB
  rw [dropZ, List.eq_replicate_iff]
  constructor
  · intro h
    refine ⟨rfl, ?_⟩
    have h1 : ∀ b ∈ s.reverse.dropWhile (· == 0), b = 0 := fun b hb => h b (List.mem_reverse.2 hb)
    have h2 : s.reverse.dropWhile (· == 0) = [] := by
      cases e : s.reverse.dropWhile (· == 0) with
      | nil => rfl
      | cons x t =>
        have hx := h1 x (by rw [e]; exact List.mem_cons_self ..)
        have hn := List.head?_dropWhile_not (fun b : UInt8 => b == 0) s.reverse
        rw [e] at hn
        simp [hx] at hn
    intro b hb
    exact dropZ.1 h2 b (List.mem_reverse.2 hb)
  · rintro ⟨_, h⟩ b hb
    have := (List.dropWhile_sublist _).subset (List.mem_reverse.1 hb)
    exact h b (List.mem_reverse.1 this)
end Go.Q
namespace Go.Q
open Go.Proofs
set_option linter.unusedVariables false
set_option maxRecDepth 100000
attribute [local irreducible] wpList OK Code.wp
theorem blG_step {la : List Bs} {x : Int} {i : Nat} {bl : Bool} {rd : Bs} (h : blG la x i = bl) (hs : rd = sec la (x + (i : Int))) (hl : rd.length = 64) : blG la x (i + 1) = (bl && decide (Lib.trimB rd 0 = [])) := by
  show (blG la x i && blankB (sec la (x + (i : Int)))) = _
  rw [h, ← hs]
  congr 1
  unfold blankB
  rw [decide_eq_decide, trim_zero, hl]
set_option maxHeartbeats 4000000 in
theorem hload_c {E w : World} {R sg : List Hp} {pb db : Nat} {p : Pw} {la : List Bs} (hH : Has E w [sg, [Hp.one pb (.cells #[(.bool p.off), (.bool p.armed), (.int .i64 p.left), (.int .i64 p.uses)] 50 (0, 0))], R]) (hd : DevAt pb sg db la []) (hg : CellsAt R 0 0 nibV) (h64 : Full64 la) (hla : la.length ≤ 4096) (x : Int) :
    Calls Tryd.prog 6 #[(.pointer (some ⟨db, 0, none⟩)), (.int .i64 x)] w fun e w' => e = .returned (.tuple #[.agg #[(.int .i64 (ldH p la x).seq), (.int .i64 (ldH p la x).ep), (.int .i64 (ldH p la x).cut), (.int .i64 (ldH p la x).st), (.int .i64 (ldH p la x).mrk)], .int .i64 (ldE p la x)]) ∧ Has E w' [sg, [Hp.one pb (.cells #[(.bool p.off), (.bool p.armed), (.int .i64 p.left), (.int .i64 p.uses)] 50 (0, 0))], R] := by
  refine c_enter (args := [(.pointer (some ⟨db, 0, none⟩)), (.int .i64 x)]) Tryd.func6 rfl Tryd.ntmps6 (by simp) ?_
  refine wp_seq_k fun K1 hK1 => ?_
  refine c_region ?_
  refine s_op (o_alloc (cs := #[(.int .i64 0), (.int .i64 0), (.int .i64 0), (.int .i64 0), (.int .i64 0)]) ti25 rfl hH fun b2 w3 hH4 => ?_)
  refine s_op (o_assign (v := (.int .i64 0)) rfl ?_)
  refine s_nil ?_
  refine t_norm (hK1 _ _ ?_)
  refine wp_seq_k fun K5 hK5 => ?_
  refine wp_seq_k fun K6 hK6 => ?_
  refine c_region ?_
  refine s_op (o_move (v := (.pointer (some ⟨db, 0, none⟩))) rfl ?_)
  refine s_op (o_move (v := (.int .i64 x)) rfl ?_)
  refine s_op (o_callf (vs := #[(.pointer (some ⟨db, 0, none⟩)), (.int .i64 x)]) ca15 rfl (args2 rfl rfl) (there_c ((hH4.front 2 rfl).front 2 rfl).all2 hd x) ?_)
  rintro _ w9 ⟨rfl, hX7⟩
  refine ⟨_, rfl, ?_⟩
  have hH8 : Has E w9 [sg, [Hp.one pb (.cells #[(.bool p.off), (.bool p.armed), (.int .i64 p.left), (.int .i64 p.uses)] 50 (0, 0))], [Hp.one b2 (.cells #[(.int .i64 0), (.int .i64 0), (.int .i64 0), (.int .i64 0), (.int .i64 0)] 25 (0, 0))], R] := hX7.of_all2
  refine s_op (o_assign (v := (.int .i64 (thE p la.length x))) rfl ?_)
  refine s_nil ?_
  refine t_norm (hK6 _ _ ?_)
  refine wp_seq_k fun K10 hK10 => ?_
  refine c_region ?_
  refine s_op (o_move (v := (.int .i64 (thE p la.length x))) rfl ?_)
  refine s_op (o_neq (a := thE p la.length x) (b := 0) rfl rfl ?_)
  refine s_nil ?_
  refine t_norm (hK10 _ _ ?_)
  refine c_cond rfl (fun h11 => ?_) (fun h11 => ?_)
  · -- thE p la.length x ≠ 0
    refine wp_seq_k fun K12 hK12 => ?_
    refine c_region ?_
    refine s_op (o_sight (v := (.agg #[(.int .i64 0), (.int .i64 0), (.int .i64 0), (.int .i64 0), (.int .i64 0)])) (fun _ => by kernel_rfl) ?_)
    refine s_op (o_move (v := (.int .i64 (thE p la.length x))) rfl ?_)
    refine s_eff (o_storeN (vs := [(.int .i64 0), (.int .i64 0), (.int .i64 0), (.int .i64 0), (.int .i64 0)]) (c' := #[(.int .i64 0), (.int .i64 0), (.int .i64 0), (.int .i64 0), (.int .i64 0)]) ti25 rfl rfl rfl rfl (by intro u hu; simp only [List.mem_cons, List.not_mem_nil, or_false] at hu; rcases hu with rfl | rfl | rfl | rfl | rfl <;> first | rfl) (by simp) (by kernel_rfl) (hH8.front 2 rfl) fun w13 hH14 => ?_)
    refine s_op (o_assign (v := (.int .i64 (thE p la.length x))) rfl ?_)
    refine s_nil ?_
    refine t_norm (hK12 _ _ ?_)
    refine wp_ret ?_
    refine t_ret (c_retC2 Tryd.results6 rfl (run_loadVarN (cs := [(.int .i64 0), (.int .i64 0), (.int .i64 0), (.int .i64 0), (.int .i64 0)]) Tryd.underlying25 rfl ti25 hH14 (seg_sub 0 rfl) (CellsAt.one rfl)) (x := (.int .i64 (thE p la.length x))) rfl ?_)
    have hH15 : Has E w13 [sg, [Hp.one pb (.cells #[(.bool p.off), (.bool p.armed), (.int .i64 p.left), (.int .i64 p.uses)] 50 (0, 0))], R] := (((hH14.front 3 rfl).front 3 rfl).front 3 rfl).first 3 rfl
    obtain ⟨e1_, e2_⟩ := ld_th h11
    exact ⟨by rw [e1_, e2_]; rfl, hH15⟩
  · -- not: thE p la.length x ≠ 0
    have hth_ := thE_zero (Classical.not_not.1 h11)
    obtain ⟨hx1_, hx2_⟩ := hth_.1
    refine wp_skip ?_
    refine t_norm (hK5 _ _ ?_)
    refine wp_seq_k fun K16 hK16 => ?_
    refine c_region ?_
    refine s_op (o_alloc (cs := #[(.int .i64 0), (.int .i64 0), (.int .i64 0), (.int .i64 0), (.int .i64 0)]) ti25 rfl hH8 fun b17 w18 hH19 => ?_)
    refine s_nil ?_
    refine t_norm (hK16 _ _ ?_)
    refine wp_seq_k fun K20 hK20 => ?_
    refine c_region ?_
    refine s_op (o_assign (v := (.bool false)) rfl ?_)
    refine s_op (o_assign (v := (.bool true)) rfl ?_)
    refine s_nil ?_
    refine t_norm (hK20 _ _ ?_)
    refine wp_seq_k fun K21 hK21 => ?_
    refine wp_seq_k fun K22 hK22 => ?_
    refine c_region ?_
    refine s_op (o_move (v := (.int .i64 0)) rfl ?_)
    refine s_nil ?_
    refine t_norm (hK22 _ _ ?_)
    refine wp_block ?_
    have hH23 : Has E w18 [[Hp.one b17 (.cells #[(.int .i64 hdZ.seq), (.int .i64 hdZ.ep), (.int .i64 hdZ.cut), (.int .i64 hdZ.st), (.int .i64 hdZ.mrk)] 25 (0, 0))], sg, [Hp.one pb (.cells #[(.bool p.off), (.bool p.armed), (.int .i64 p.left), (.int .i64 p.uses)] 50 (0, 0))], [Hp.one b2 (.cells #[(.int .i64 0), (.int .i64 0), (.int .i64 0), (.int .i64 0), (.int .i64 0)] 25 (0, 0))], R] := hH19
    let I25 : Nat → (Nat → Value) → World → Prop := fun n__ r__ w__ => ∃ (i : Nat) (bh : Hd) (fd : Bool) (bl : Bool), n__ = 2 - i ∧ Has E w__ [[Hp.one b17 (.cells #[(.int .i64 bh.seq), (.int .i64 bh.ep), (.int .i64 bh.cut), (.int .i64 bh.st), (.int .i64 bh.mrk)] 25 (0, 0))], sg, [Hp.one pb (.cells #[(.bool p.off), (.bool p.armed), (.int .i64 p.left), (.int .i64 p.uses)] 50 (0, 0))], [Hp.one b2 (.cells #[(.int .i64 0), (.int .i64 0), (.int .i64 0), (.int .i64 0), (.int .i64 0)] 25 (0, 0))], R] ∧ (i ≤ 2) ∧ (ldG la x i = (bh, fd)) ∧ (blG la x i = bl) ∧ r__ 0 = (.pointer (some ⟨db, 0, none⟩)) ∧ r__ 1 = (.int .i64 x) ∧ r__ 4 = (.pointer (some ⟨b2, 0, none⟩)) ∧ r__ 6 = (.int .i64 (thE p la.length x)) ∧ r__ 7 = (.pointer (some ⟨b17, 0, none⟩)) ∧ r__ 8 = (.bool fd) ∧ r__ 9 = (.bool bl) ∧ r__ 19 = (.bool (decide (thE p la.length x ≠ 0))) ∧ r__ 22 = (.int .i64 (i : Int))
    refine c_loop I25 _ ⟨0, hdZ, false, true, rfl, hH23, (by omega), rfl, rfl, rfl, rfl, rfl, rfl, rfl, rfl, rfl, rfl, rfl⟩ ?_
    rintro n_ r28 w26 ⟨i, bh, fd, bl, rfl, hH27, hi, hld, hbl, e24_0, e24_1, e24_4, e24_6, e24_7, e24_8, e24_9, e24_19, e24_22⟩
    have hsi_ : i < 2 → inS (x + (i : Int)) la.length := fun h_ => ⟨by omega, by omega⟩
    refine wp_seq_k fun K29 hK29 => ?_
    refine c_region ?_
    refine s_op (o_lss (a := (i : Int)) (b := 2) e24_22 rfl ?_)
    refine s_nil ?_
    refine t_norm (hK29 _ _ ?_)
    refine wp_seq_k fun K30 hK30 => ?_
    refine c_cond rfl (fun h31 => ?_) (fun h31 => ?_)
    · -- (i : Int) < 2
      refine wp_skip ?_
      refine t_norm (hK30 _ _ ?_)
      refine wp_seq_k fun K32 hK32 => ?_
      refine wp_block ?_
      refine wp_seq_k fun K33 hK33 => ?_
      refine c_region ?_
      refine s_op (o_move (v := (.int .i64 (i : Int))) e24_22 ?_)
      refine s_op (o_assign (v := (.int .i64 (i : Int))) rfl ?_)
      refine s_nil ?_
      refine t_norm (hK33 _ _ ?_)
      refine wp_seq_k fun K34 hK34 => ?_
      refine c_region ?_
      refine s_op (o_move (v := (.pointer (some ⟨db, 0, none⟩))) e24_0 ?_)
      refine s_op (o_move (v := (.int .i64 x)) e24_1 ?_)
      refine s_op (o_move (v := (.int .i64 (i : Int))) rfl ?_)
      refine s_op (o_add (a := x) (b := (i : Int)) rfl rfl (w64 (by omega) (by omega)) ?_)
      refine s_op (o_callf (vs := #[(.pointer (some ⟨db, 0, none⟩)), (.int .i64 (x + (i : Int)))]) ca13 rfl (args2 rfl rfl) (read_d (p := p) (la := la) (lo := ([] : List (Int × Bs))) ((hH27.front 2 rfl).front 2 rfl).all2 hd (x + (i : Int))) ?_)
      rintro _ w37 ⟨rfl, hX35⟩
      refine ⟨_, rfl, ?_⟩
      have hH36 : Has E w37 [sg, [Hp.one pb (.cells #[(.bool p.off), (.bool p.armed), (.int .i64 p.left), (.int .i64 p.uses)] 50 (0, 0))], [Hp.one b17 (.cells #[(.int .i64 bh.seq), (.int .i64 bh.ep), (.int .i64 bh.cut), (.int .i64 bh.st), (.int .i64 bh.mrk)] 25 (0, 0))], [Hp.one b2 (.cells #[(.int .i64 0), (.int .i64 0), (.int .i64 0), (.int .i64 0), (.int .i64 0)] 25 (0, 0))], R] := hX35.of_all2
      refine s_op (o_move (v := (.tuple #[(S (readS p la ([] : List (Int × Bs)) (x + (i : Int)))), (.int .i64 (readE p la (x + (i : Int))))])) rfl ?_)
      refine s_op (o_extract (v := (S (readS p la ([] : List (Int × Bs)) (x + (i : Int))))) rfl rfl ?_)
      refine s_op (o_extract (v := (.int .i64 (readE p la (x + (i : Int))))) rfl rfl ?_)
      refine s_op (o_assign (v := (S (readS p la ([] : List (Int × Bs)) (x + (i : Int))))) rfl ?_)
      refine s_op (o_assign (v := (.int .i64 (readE p la (x + (i : Int))))) rfl ?_)
      refine s_nil ?_
      refine t_norm (hK34 _ _ ?_)
      refine wp_seq_k fun K38 hK38 => ?_
      refine wp_seq_k fun K39 hK39 => ?_
      refine c_region ?_
      refine s_op (o_move (v := (.int .i64 (readE p la (x + (i : Int))))) rfl ?_)
      refine s_op (o_neq (a := readE p la (x + (i : Int))) (b := 0) rfl rfl ?_)
      refine s_nil ?_
      refine t_norm (hK39 _ _ ?_)
      refine c_cond rfl (fun h40 => ?_) (fun h40 => ?_)
      · -- readE p la (x + (i : Int)) ≠ 0
        obtain ⟨hsec_, hre_⟩ := read_sec (p := p) (la := la) (n := x + (i : Int)) hth_.2 (hsi_ (by omega))
        have hsl_ : (readS p la [] (x + (i : Int))).length = 64 := by rw [hsec_]; exact sec_len h64 (hsi_ (by omega))
        exact absurd hre_ h40
      · -- not: readE p la (x + (i : Int)) ≠ 0
        obtain ⟨hsec_, hre_⟩ := read_sec (p := p) (la := la) (n := x + (i : Int)) hth_.2 (hsi_ (by omega))
        have hsl_ : (readS p la [] (x + (i : Int))).length = 64 := by rw [hsec_]; exact sec_len h64 (hsi_ (by omega))
        refine wp_skip ?_
        refine t_norm (hK38 _ _ ?_)
        refine wp_seq_k fun K41 hK41 => ?_
        refine c_region ?_
        refine s_op (o_move (v := (.bool bl)) e24_9 ?_)
        refine s_op (o_move (v := (.bool bl)) rfl ?_)
        rcases Bool.eq_false_or_eq_true bl with h42 | h42
        · -- bl
          refine s_on 38 rfl (congrArg Value.bool h42) (o_move (v := (S (readS p la ([] : List (Int × Bs)) (x + (i : Int))))) rfl ?_)
          refine s_on 38 rfl (congrArg Value.bool h42) (o_callf (vs := #[(S (readS p la ([] : List (Int × Bs)) (x + (i : Int)))), (S [0])]) ca16 rfl (args2 rfl rfl) (strim_c hH36.all (readS p la ([] : List (Int × Bs)) (x + (i : Int))) (by omega)) ?_)
          rintro _ w45 ⟨rfl, hX43⟩
          refine ⟨_, rfl, ?_⟩
          have hH44 := hX43.of_all
          refine s_on 38 rfl (congrArg Value.bool h42) (o_seql (a := (Lib.trimB (readS p la ([] : List (Int × Bs)) (x + (i : Int))) 0)) (b := ([] : List UInt8)) rfl rfl ?_)
          refine s_op (o_pick_t (u := (.bool (decide ((Lib.trimB (readS p la ([] : List (Int × Bs)) (x + (i : Int))) 0) = ([] : List UInt8))))) ((rfl : _ = _).trans (congrArg Value.bool h42)) rfl ?_)
          refine s_op (o_assign (v := (.bool (decide ((Lib.trimB (readS p la ([] : List (Int × Bs)) (x + (i : Int))) 0) = ([] : List UInt8))))) rfl ?_)
          refine s_nil ?_
          refine t_norm (hK41 _ _ ?_)
          refine wp_seq_k fun K46 hK46 => ?_
          refine c_region ?_
          refine s_op (o_move (v := (S (readS p la ([] : List (Int × Bs)) (x + (i : Int))))) rfl ?_)
          refine s_op (o_callf (vs := #[(S (readS p la ([] : List (Int × Bs)) (x + (i : Int))))]) ca17 rfl (args1 rfl) (hread_c (s := (readS p la ([] : List (Int × Bs)) (x + (i : Int)))) hH44.all (hg.mono (seg_sub 4 rfl)) (by first | omega | (simp only []; omega) | (simp; done) | (simp; omega))) ?_)
          rintro _ w49 ⟨rfl, hX47⟩
          refine ⟨_, rfl, ?_⟩
          have hH48 := hX47.of_all
          have hnn_ := hdP_nn (readS p la ([] : List (Int × Bs)) (x + (i : Int)))
          refine s_op (o_move (v := (.tuple #[(.agg #[(.int .i64 ((hdP (readS p la ([] : List (Int × Bs)) (x + (i : Int)))).1).seq), (.int .i64 ((hdP (readS p la ([] : List (Int × Bs)) (x + (i : Int)))).1).ep), (.int .i64 ((hdP (readS p la ([] : List (Int × Bs)) (x + (i : Int)))).1).cut), (.int .i64 ((hdP (readS p la ([] : List (Int × Bs)) (x + (i : Int)))).1).st), (.int .i64 ((hdP (readS p la ([] : List (Int × Bs)) (x + (i : Int)))).1).mrk)]), (.bool ((hdP (readS p la ([] : List (Int × Bs)) (x + (i : Int)))).2))])) rfl ?_)
          refine s_op (o_extract (v := (.agg #[(.int .i64 ((hdP (readS p la ([] : List (Int × Bs)) (x + (i : Int)))).1).seq), (.int .i64 ((hdP (readS p la ([] : List (Int × Bs)) (x + (i : Int)))).1).ep), (.int .i64 ((hdP (readS p la ([] : List (Int × Bs)) (x + (i : Int)))).1).cut), (.int .i64 ((hdP (readS p la ([] : List (Int × Bs)) (x + (i : Int)))).1).st), (.int .i64 ((hdP (readS p la ([] : List (Int × Bs)) (x + (i : Int)))).1).mrk)])) rfl rfl ?_)
          refine s_op (o_extract (v := (.bool ((hdP (readS p la ([] : List (Int × Bs)) (x + (i : Int)))).2))) rfl rfl ?_)
          refine s_op (o_alloc (cs := #[(.int .i64 0), (.int .i64 0), (.int .i64 0), (.int .i64 0), (.int .i64 0)]) ti25 rfl hH48 fun b50 w51 hH52 => ?_)
          refine s_eff (o_storeN (vs := [(.int .i64 ((hdP (readS p la ([] : List (Int × Bs)) (x + (i : Int)))).1).seq), (.int .i64 ((hdP (readS p la ([] : List (Int × Bs)) (x + (i : Int)))).1).ep), (.int .i64 ((hdP (readS p la ([] : List (Int × Bs)) (x + (i : Int)))).1).cut), (.int .i64 ((hdP (readS p la ([] : List (Int × Bs)) (x + (i : Int)))).1).st), (.int .i64 ((hdP (readS p la ([] : List (Int × Bs)) (x + (i : Int)))).1).mrk)]) (c' := #[(.int .i64 ((hdP (readS p la ([] : List (Int × Bs)) (x + (i : Int)))).1).seq), (.int .i64 ((hdP (readS p la ([] : List (Int × Bs)) (x + (i : Int)))).1).ep), (.int .i64 ((hdP (readS p la ([] : List (Int × Bs)) (x + (i : Int)))).1).cut), (.int .i64 ((hdP (readS p la ([] : List (Int × Bs)) (x + (i : Int)))).1).st), (.int .i64 ((hdP (readS p la ([] : List (Int × Bs)) (x + (i : Int)))).1).mrk)]) ti25 rfl rfl rfl rfl (by intro u hu; simp only [List.mem_cons, List.not_mem_nil, or_false] at hu; rcases hu with rfl | rfl | rfl | rfl | rfl <;> first | rfl) (by simp) (by kernel_rfl) (hH52.front 0 rfl) fun w53 hH54 => ?_)
          refine s_op (o_assign (v := (.bool ((hdP (readS p la ([] : List (Int × Bs)) (x + (i : Int)))).2))) rfl ?_)
          refine s_nil ?_
          refine t_norm (hK46 _ _ ?_)
          refine wp_seq_k fun K55 hK55 => ?_
          refine c_region ?_
          refine s_op (o_move (v := (.bool ((hdP (readS p la ([] : List (Int × Bs)) (x + (i : Int)))).2))) rfl ?_)
          refine s_op (o_move (v := (.bool ((hdP (readS p la ([] : List (Int × Bs)) (x + (i : Int)))).2))) rfl ?_)
          rcases Bool.eq_false_or_eq_true ((hdP (readS p la ([] : List (Int × Bs)) (x + (i : Int)))).2) with h56 | h56
          · -- (hdP (readS p la ([] : List (Int × Bs)) (x + (i : Int)))).2
            refine s_on 49 rfl (congrArg Value.bool h56) (o_fieldAddr (k := 0) (fun _ => by kernel_rfl) rfl ?_)
            refine s_on 49 rfl (congrArg Value.bool h56) (o_load1 (v := (.int .i64 ((hdP (readS p la ([] : List (Int × Bs)) (x + (i : Int)))).1).seq)) Tryd.underlying3 rfl rfl hH54 (seg_sub 0 rfl) (CellsAt.one rfl) ?_)
            refine s_on 49 rfl (congrArg Value.bool h56) (o_rem (a := ((hdP (readS p la ([] : List (Int × Bs)) (x + (i : Int)))).1).seq) (b := 2) (c := (((hdP (readS p la ([] : List (Int × Bs)) (x + (i : Int)))).1).seq) % 2) rfl rfl (by omega) ((Int.tmod_eq_emod_of_nonneg (by first | exact Int.natCast_nonneg _ | omega))) ?_)
            refine s_on 49 rfl (congrArg Value.bool h56) (o_move (v := (.int .i64 (i : Int))) rfl ?_)
            refine s_on 49 rfl (congrArg Value.bool h56) (o_eql (a := (((hdP (readS p la ([] : List (Int × Bs)) (x + (i : Int)))).1).seq) % 2) (b := (i : Int)) rfl rfl ?_)
            refine s_op (o_pick_t (u := (.bool (decide ((((hdP (readS p la ([] : List (Int × Bs)) (x + (i : Int)))).1).seq) % 2 = (i : Int))))) ((rfl : _ = _).trans (congrArg Value.bool h56)) rfl ?_)
            refine s_op (o_move (v := (.bool (decide ((((hdP (readS p la ([] : List (Int × Bs)) (x + (i : Int)))).1).seq) % 2 = (i : Int))))) rfl ?_)
            by_cases h57 : (((hdP (readS p la ([] : List (Int × Bs)) (x + (i : Int)))).1).seq) % 2 = (i : Int)
            · -- (((hdP (readS p la ([] : List (Int × Bs)) (x + (i : Int)))).1).seq) % 2 = (i : Int)
              refine s_on 56 rfl (congrArg Value.bool (decide_eq_true h57)) (o_move (v := (.bool fd)) e24_8 ?_)
              refine s_on 56 rfl (congrArg Value.bool (decide_eq_true h57)) (o_not rfl ?_)
              refine s_on 56 rfl (congrArg Value.bool (decide_eq_true h57)) (o_move (v := (.bool (!fd))) rfl ?_)
              rcases Bool.eq_false_or_eq_true (!fd) with h58 | h58
              · -- !fd
                have h58_n : fd = false := by simpa using h58
                refine s_off (b' := true) 59 rfl (congrArg Value.bool h58) rfl ?_
                refine s_off (b' := true) 59 rfl (congrArg Value.bool h58) rfl ?_
                refine s_off (b' := true) 59 rfl (congrArg Value.bool h58) rfl ?_
                refine s_off (b' := true) 59 rfl (congrArg Value.bool h58) rfl ?_
                refine s_off (b' := true) 59 rfl (congrArg Value.bool h58) rfl ?_
                refine s_on 56 rfl (congrArg Value.bool (decide_eq_true h57)) (o_pick_t (u := (.bool true)) ((rfl : _ = _).trans (congrArg Value.bool h58)) rfl ?_)
                refine s_op (o_pick_t (u := (.bool true)) ((rfl : _ = _).trans (congrArg Value.bool (decide_eq_true h57))) rfl ?_)
                refine s_nil ?_
                refine t_norm (hK55 _ _ ?_)
                refine c_true rfl rfl ?_
                refine c_region ?_
                refine s_op (o_loadN (cs := [(.int .i64 ((hdP (readS p la ([] : List (Int × Bs)) (x + (i : Int)))).1).seq), (.int .i64 ((hdP (readS p la ([] : List (Int × Bs)) (x + (i : Int)))).1).ep), (.int .i64 ((hdP (readS p la ([] : List (Int × Bs)) (x + (i : Int)))).1).cut), (.int .i64 ((hdP (readS p la ([] : List (Int × Bs)) (x + (i : Int)))).1).st), (.int .i64 ((hdP (readS p la ([] : List (Int × Bs)) (x + (i : Int)))).1).mrk)]) Tryd.underlying25 rfl ti25 rfl hH54 (seg_sub 0 rfl) (CellsAt.one rfl) ?_)
                refine s_eff (o_storeN (vs := [(.int .i64 ((hdP (readS p la ([] : List (Int × Bs)) (x + (i : Int)))).1).seq), (.int .i64 ((hdP (readS p la ([] : List (Int × Bs)) (x + (i : Int)))).1).ep), (.int .i64 ((hdP (readS p la ([] : List (Int × Bs)) (x + (i : Int)))).1).cut), (.int .i64 ((hdP (readS p la ([] : List (Int × Bs)) (x + (i : Int)))).1).st), (.int .i64 ((hdP (readS p la ([] : List (Int × Bs)) (x + (i : Int)))).1).mrk)]) (c' := #[(.int .i64 ((hdP (readS p la ([] : List (Int × Bs)) (x + (i : Int)))).1).seq), (.int .i64 ((hdP (readS p la ([] : List (Int × Bs)) (x + (i : Int)))).1).ep), (.int .i64 ((hdP (readS p la ([] : List (Int × Bs)) (x + (i : Int)))).1).cut), (.int .i64 ((hdP (readS p la ([] : List (Int × Bs)) (x + (i : Int)))).1).st), (.int .i64 ((hdP (readS p la ([] : List (Int × Bs)) (x + (i : Int)))).1).mrk)]) ti25 e24_7 rfl rfl rfl (by intro u hu; simp only [List.mem_cons, List.not_mem_nil, or_false] at hu; rcases hu with rfl | rfl | rfl | rfl | rfl <;> first | rfl) (by simp) (by kernel_rfl) (hH54.front 3 rfl) fun w59 hH60 => ?_)
                refine s_op (o_assign (v := (.bool true)) rfl ?_)
                refine s_nil ?_
                refine b_norm ?_
                refine t_norm (hK32 _ _ ?_)
                refine c_region ?_
                refine s_op (o_add (a := (i : Int)) (b := 1) e24_22 rfl (w64 (by omega) (by omega)) ?_)
                refine s_op (o_move (v := (.int .i64 ((i : Int) + 1))) rfl ?_)
                refine s_nil ?_
                have hH61 : Has E w59 [[Hp.one b17 (.cells #[(.int .i64 ((hdP (readS p la ([] : List (Int × Bs)) (x + (i : Int)))).1).seq), (.int .i64 ((hdP (readS p la ([] : List (Int × Bs)) (x + (i : Int)))).1).ep), (.int .i64 ((hdP (readS p la ([] : List (Int × Bs)) (x + (i : Int)))).1).cut), (.int .i64 ((hdP (readS p la ([] : List (Int × Bs)) (x + (i : Int)))).1).st), (.int .i64 ((hdP (readS p la ([] : List (Int × Bs)) (x + (i : Int)))).1).mrk)] 25 (0, 0))], sg, [Hp.one pb (.cells #[(.bool p.off), (.bool p.armed), (.int .i64 p.left), (.int .i64 p.uses)] 50 (0, 0))], [Hp.one b2 (.cells #[(.int .i64 0), (.int .i64 0), (.int .i64 0), (.int .i64 0), (.int .i64 0)] 25 (0, 0))], R] := (((((hH60.front 5 rfl).front 5 rfl).front 5 rfl).front 5 rfl).front 4 rfl).first 5 rfl
                refine t_norm ⟨2 - (i + 1), _, rfl, ?_, ?_⟩
                · omega
                · exact ⟨(i + 1), ((hdP (readS p la ([] : List (Int × Bs)) (x + (i : Int)))).1), true, (decide ((Lib.trimB (readS p la ([] : List (Int × Bs)) (x + (i : Int))) 0) = ([] : List UInt8))), rfl, hH61, (by omega), (ldG_yes hld hsec_ (by first | (simpa using h11) | (simpa using h31) | (simpa using h40) | (simpa using h42) | (simpa using h56) | (simpa using h57) | (simpa using h58) | (simpa using h58_n)) (by first | exact h11 | exact h31 | exact h40 | exact h42 | exact h56 | exact h57 | exact h58 | exact h58_n) (by first | exact .inr (by omega) | exact .inl (by simpa using h11) | exact .inl (by simpa using h31) | exact .inl (by simpa using h40) | exact .inl (by simpa using h42) | exact .inl (by simpa using h56) | exact .inl (by simpa using h57) | exact .inl (by simpa using h58) | exact .inl (by simpa using h58_n))), ((blG_step hbl hsec_ hsl_).trans (by first | rfl | (rw [h42]; rfl) | simp [h42])), e24_0, e24_1, e24_4, e24_6, e24_7, rfl, rfl, e24_19, rfl⟩
              · -- not: !fd
                have h58_n : fd = true := by simpa using h58
                refine s_on 59 rfl (congrArg Value.bool h58) (o_fieldAddr (k := 0) (fun _ => by kernel_rfl) rfl ?_)
                refine s_on 59 rfl (congrArg Value.bool h58) (o_load1 (v := (.int .i64 ((hdP (readS p la ([] : List (Int × Bs)) (x + (i : Int)))).1).seq)) Tryd.underlying3 rfl rfl hH54 (seg_sub 0 rfl) (CellsAt.one rfl) ?_)
                refine s_on 59 rfl (congrArg Value.bool h58) (o_fieldAddr (k := 0) (fun _ => by kernel_rfl) e24_7 ?_)
                refine s_on 59 rfl (congrArg Value.bool h58) (o_load1 (v := (.int .i64 bh.seq)) Tryd.underlying3 rfl rfl hH54 (seg_sub 3 rfl) (CellsAt.one rfl) ?_)
                refine s_on 59 rfl (congrArg Value.bool h58) (o_gtr (a := ((hdP (readS p la ([] : List (Int × Bs)) (x + (i : Int)))).1).seq) (b := bh.seq) rfl rfl ?_)
                refine s_on 56 rfl (congrArg Value.bool (decide_eq_true h57)) (o_pick_f (u := (.bool (decide (bh.seq < ((hdP (readS p la ([] : List (Int × Bs)) (x + (i : Int)))).1).seq)))) ((rfl : _ = _).trans (congrArg Value.bool h58)) rfl ?_)
                refine s_op (o_pick_t (u := (.bool (decide (bh.seq < ((hdP (readS p la ([] : List (Int × Bs)) (x + (i : Int)))).1).seq)))) ((rfl : _ = _).trans (congrArg Value.bool (decide_eq_true h57))) rfl ?_)
                refine s_nil ?_
                refine t_norm (hK55 _ _ ?_)
                refine c_cond rfl (fun h62 => ?_) (fun h62 => ?_)
                · -- bh.seq < ((hdP (readS p la ([] : List (Int × Bs)) (x + (i : Int)))).1).seq
                  refine c_region ?_
                  refine s_op (o_loadN (cs := [(.int .i64 ((hdP (readS p la ([] : List (Int × Bs)) (x + (i : Int)))).1).seq), (.int .i64 ((hdP (readS p la ([] : List (Int × Bs)) (x + (i : Int)))).1).ep), (.int .i64 ((hdP (readS p la ([] : List (Int × Bs)) (x + (i : Int)))).1).cut), (.int .i64 ((hdP (readS p la ([] : List (Int × Bs)) (x + (i : Int)))).1).st), (.int .i64 ((hdP (readS p la ([] : List (Int × Bs)) (x + (i : Int)))).1).mrk)]) Tryd.underlying25 rfl ti25 rfl hH54 (seg_sub 0 rfl) (CellsAt.one rfl) ?_)
                  refine s_eff (o_storeN (vs := [(.int .i64 ((hdP (readS p la ([] : List (Int × Bs)) (x + (i : Int)))).1).seq), (.int .i64 ((hdP (readS p la ([] : List (Int × Bs)) (x + (i : Int)))).1).ep), (.int .i64 ((hdP (readS p la ([] : List (Int × Bs)) (x + (i : Int)))).1).cut), (.int .i64 ((hdP (readS p la ([] : List (Int × Bs)) (x + (i : Int)))).1).st), (.int .i64 ((hdP (readS p la ([] : List (Int × Bs)) (x + (i : Int)))).1).mrk)]) (c' := #[(.int .i64 ((hdP (readS p la ([] : List (Int × Bs)) (x + (i : Int)))).1).seq), (.int .i64 ((hdP (readS p la ([] : List (Int × Bs)) (x + (i : Int)))).1).ep), (.int .i64 ((hdP (readS p la ([] : List (Int × Bs)) (x + (i : Int)))).1).cut), (.int .i64 ((hdP (readS p la ([] : List (Int × Bs)) (x + (i : Int)))).1).st), (.int .i64 ((hdP (readS p la ([] : List (Int × Bs)) (x + (i : Int)))).1).mrk)]) ti25 e24_7 rfl rfl rfl (by intro u hu; simp only [List.mem_cons, List.not_mem_nil, or_false] at hu; rcases hu with rfl | rfl | rfl | rfl | rfl <;> first | rfl) (by simp) (by kernel_rfl) (hH54.front 3 rfl) fun w63 hH64 => ?_)
                  refine s_op (o_assign (v := (.bool true)) rfl ?_)
                  refine s_nil ?_
                  refine b_norm ?_
                  refine t_norm (hK32 _ _ ?_)
                  refine c_region ?_
                  refine s_op (o_add (a := (i : Int)) (b := 1) e24_22 rfl (w64 (by omega) (by omega)) ?_)
                  refine s_op (o_move (v := (.int .i64 ((i : Int) + 1))) rfl ?_)
                  refine s_nil ?_
                  have hH65 : Has E w63 [[Hp.one b17 (.cells #[(.int .i64 ((hdP (readS p la ([] : List (Int × Bs)) (x + (i : Int)))).1).seq), (.int .i64 ((hdP (readS p la ([] : List (Int × Bs)) (x + (i : Int)))).1).ep), (.int .i64 ((hdP (readS p la ([] : List (Int × Bs)) (x + (i : Int)))).1).cut), (.int .i64 ((hdP (readS p la ([] : List (Int × Bs)) (x + (i : Int)))).1).st), (.int .i64 ((hdP (readS p la ([] : List (Int × Bs)) (x + (i : Int)))).1).mrk)] 25 (0, 0))], sg, [Hp.one pb (.cells #[(.bool p.off), (.bool p.armed), (.int .i64 p.left), (.int .i64 p.uses)] 50 (0, 0))], [Hp.one b2 (.cells #[(.int .i64 0), (.int .i64 0), (.int .i64 0), (.int .i64 0), (.int .i64 0)] 25 (0, 0))], R] := (((((hH64.front 5 rfl).front 5 rfl).front 5 rfl).front 5 rfl).front 4 rfl).first 5 rfl
                  refine t_norm ⟨2 - (i + 1), _, rfl, ?_, ?_⟩
                  · omega
                  · exact ⟨(i + 1), ((hdP (readS p la ([] : List (Int × Bs)) (x + (i : Int)))).1), true, (decide ((Lib.trimB (readS p la ([] : List (Int × Bs)) (x + (i : Int))) 0) = ([] : List UInt8))), rfl, hH65, (by omega), (ldG_yes hld hsec_ (by first | (simpa using h11) | (simpa using h31) | (simpa using h40) | (simpa using h42) | (simpa using h56) | (simpa using h57) | (simpa using h58) | (simpa using h58_n) | (simpa using h62)) (by first | exact h11 | exact h31 | exact h40 | exact h42 | exact h56 | exact h57 | exact h58 | exact h58_n | exact h62) (by first | exact .inr (by omega) | exact .inl (by simpa using h11) | exact .inl (by simpa using h31) | exact .inl (by simpa using h40) | exact .inl (by simpa using h42) | exact .inl (by simpa using h56) | exact .inl (by simpa using h57) | exact .inl (by simpa using h58) | exact .inl (by simpa using h58_n) | exact .inl (by simpa using h62))), ((blG_step hbl hsec_ hsl_).trans (by first | rfl | (rw [h42]; rfl) | simp [h42])), e24_0, e24_1, e24_4, e24_6, e24_7, rfl, rfl, e24_19, rfl⟩
                · -- not: bh.seq < ((hdP (readS p la ([] : List (Int × Bs)) (x + (i : Int)))).1).seq
                  refine wp_skip ?_
                  refine b_norm ?_
                  refine t_norm (hK32 _ _ ?_)
                  refine c_region ?_
                  refine s_op (o_add (a := (i : Int)) (b := 1) e24_22 rfl (w64 (by omega) (by omega)) ?_)
                  refine s_op (o_move (v := (.int .i64 ((i : Int) + 1))) rfl ?_)
                  refine s_nil ?_
                  have hH66 : Has E w53 [[Hp.one b17 (.cells #[(.int .i64 bh.seq), (.int .i64 bh.ep), (.int .i64 bh.cut), (.int .i64 bh.st), (.int .i64 bh.mrk)] 25 (0, 0))], sg, [Hp.one pb (.cells #[(.bool p.off), (.bool p.armed), (.int .i64 p.left), (.int .i64 p.uses)] 50 (0, 0))], [Hp.one b2 (.cells #[(.int .i64 0), (.int .i64 0), (.int .i64 0), (.int .i64 0), (.int .i64 0)] 25 (0, 0))], R] := (((((hH54.front 5 rfl).front 5 rfl).front 4 rfl).front 4 rfl).front 5 rfl).first 5 rfl
                  refine t_norm ⟨2 - (i + 1), _, rfl, ?_, ?_⟩
                  · omega
                  · exact ⟨(i + 1), bh, fd, (decide ((Lib.trimB (readS p la ([] : List (Int × Bs)) (x + (i : Int))) 0) = ([] : List UInt8))), rfl, hH66, (by omega), (ldG_no hld hsec_ (.inr (.inr ⟨by first | (simpa using h11) | (simpa using h31) | (simpa using h40) | (simpa using h42) | (simpa using h56) | (simpa using h57) | (simpa using h58) | (simpa using h58_n) | (simpa using h62), by omega⟩))), ((blG_step hbl hsec_ hsl_).trans (by first | rfl | (rw [h42]; rfl) | simp [h42])), e24_0, e24_1, e24_4, e24_6, e24_7, e24_8, rfl, e24_19, rfl⟩
            · -- not: (((hdP (readS p la ([] : List (Int × Bs)) (x + (i : Int)))).1).seq) % 2 = (i : Int)
              refine s_off (b' := false) 56 rfl (congrArg Value.bool (decide_eq_false h57)) rfl ?_
              refine s_off (b' := false) 56 rfl (congrArg Value.bool (decide_eq_false h57)) rfl ?_
              refine s_off (b' := false) 56 rfl (congrArg Value.bool (decide_eq_false h57)) rfl ?_
              refine s_offu 59 rfl rfl ?_
              refine s_offu 59 rfl rfl ?_
              refine s_offu 59 rfl rfl ?_
              refine s_offu 59 rfl rfl ?_
              refine s_offu 59 rfl rfl ?_
              refine s_off (b' := false) 56 rfl (congrArg Value.bool (decide_eq_false h57)) rfl ?_
              refine s_op (o_pick_f (u := (.bool false)) ((rfl : _ = _).trans (congrArg Value.bool (decide_eq_false h57))) rfl ?_)
              refine s_nil ?_
              refine t_norm (hK55 _ _ ?_)
              refine c_false rfl rfl ?_
              refine wp_skip ?_
              refine b_norm ?_
              refine t_norm (hK32 _ _ ?_)
              refine c_region ?_
              refine s_op (o_add (a := (i : Int)) (b := 1) e24_22 rfl (w64 (by omega) (by omega)) ?_)
              refine s_op (o_move (v := (.int .i64 ((i : Int) + 1))) rfl ?_)
              refine s_nil ?_
              have hH67 : Has E w53 [[Hp.one b17 (.cells #[(.int .i64 bh.seq), (.int .i64 bh.ep), (.int .i64 bh.cut), (.int .i64 bh.st), (.int .i64 bh.mrk)] 25 (0, 0))], sg, [Hp.one pb (.cells #[(.bool p.off), (.bool p.armed), (.int .i64 p.left), (.int .i64 p.uses)] 50 (0, 0))], [Hp.one b2 (.cells #[(.int .i64 0), (.int .i64 0), (.int .i64 0), (.int .i64 0), (.int .i64 0)] 25 (0, 0))], R] := (((((hH54.front 5 rfl).front 5 rfl).front 4 rfl).front 4 rfl).front 5 rfl).first 5 rfl
              refine t_norm ⟨2 - (i + 1), _, rfl, ?_, ?_⟩
              · omega
              · exact ⟨(i + 1), bh, fd, (decide ((Lib.trimB (readS p la ([] : List (Int × Bs)) (x + (i : Int))) 0) = ([] : List UInt8))), rfl, hH67, (by omega), (ldG_no hld hsec_ (by first | exact .inl (by simpa using h11) | exact .inr (.inl h11) | exact .inl (by simpa using h31) | exact .inr (.inl h31) | exact .inl (by simpa using h40) | exact .inr (.inl h40) | exact .inl (by simpa using h42) | exact .inr (.inl h42) | exact .inl (by simpa using h56) | exact .inr (.inl h56) | exact .inl (by simpa using h57) | exact .inr (.inl h57))), ((blG_step hbl hsec_ hsl_).trans (by first | rfl | (rw [h42]; rfl) | simp [h42])), e24_0, e24_1, e24_4, e24_6, e24_7, e24_8, rfl, e24_19, rfl⟩
          · -- not: (hdP (readS p la ([] : List (Int × Bs)) (x + (i : Int)))).2
            refine s_off (b' := false) 49 rfl (congrArg Value.bool h56) rfl ?_
            refine s_off (b' := false) 49 rfl (congrArg Value.bool h56) rfl ?_
            refine s_off (b' := false) 49 rfl (congrArg Value.bool h56) rfl ?_
            refine s_off (b' := false) 49 rfl (congrArg Value.bool h56) rfl ?_
            refine s_off (b' := false) 49 rfl (congrArg Value.bool h56) rfl ?_
            refine s_op (o_pick_f (u := (.bool false)) ((rfl : _ = _).trans (congrArg Value.bool h56)) rfl ?_)
            refine s_op (o_move (v := (.bool false)) rfl ?_)
            refine s_off (b' := false) 56 rfl rfl rfl ?_
            refine s_off (b' := false) 56 rfl rfl rfl ?_
            refine s_off (b' := false) 56 rfl rfl rfl ?_
            refine s_offu 59 rfl rfl ?_
            refine s_offu 59 rfl rfl ?_
            refine s_offu 59 rfl rfl ?_
            refine s_offu 59 rfl rfl ?_
            refine s_offu 59 rfl rfl ?_
            refine s_off (b' := false) 56 rfl rfl rfl ?_
            refine s_op (o_pick_f (u := (.bool false)) rfl rfl ?_)
            refine s_nil ?_
            refine t_norm (hK55 _ _ ?_)
            refine c_false rfl rfl ?_
            refine wp_skip ?_
            refine b_norm ?_
            refine t_norm (hK32 _ _ ?_)
            refine c_region ?_
            refine s_op (o_add (a := (i : Int)) (b := 1) e24_22 rfl (w64 (by omega) (by omega)) ?_)
            refine s_op (o_move (v := (.int .i64 ((i : Int) + 1))) rfl ?_)
            refine s_nil ?_
            have hH68 : Has E w53 [[Hp.one b17 (.cells #[(.int .i64 bh.seq), (.int .i64 bh.ep), (.int .i64 bh.cut), (.int .i64 bh.st), (.int .i64 bh.mrk)] 25 (0, 0))], sg, [Hp.one pb (.cells #[(.bool p.off), (.bool p.armed), (.int .i64 p.left), (.int .i64 p.uses)] 50 (0, 0))], [Hp.one b2 (.cells #[(.int .i64 0), (.int .i64 0), (.int .i64 0), (.int .i64 0), (.int .i64 0)] 25 (0, 0))], R] := (((((hH54.front 5 rfl).front 5 rfl).front 4 rfl).front 4 rfl).front 5 rfl).first 5 rfl
            refine t_norm ⟨2 - (i + 1), _, rfl, ?_, ?_⟩
            · omega
            · exact ⟨(i + 1), bh, fd, (decide ((Lib.trimB (readS p la ([] : List (Int × Bs)) (x + (i : Int))) 0) = ([] : List UInt8))), rfl, hH68, (by omega), (ldG_no hld hsec_ (by first | exact .inl (by simpa using h11) | exact .inr (.inl h11) | exact .inl (by simpa using h31) | exact .inr (.inl h31) | exact .inl (by simpa using h40) | exact .inr (.inl h40) | exact .inl (by simpa using h42) | exact .inr (.inl h42) | exact .inl (by simpa using h56) | exact .inr (.inl h56))), ((blG_step hbl hsec_ hsl_).trans (by first | rfl | (rw [h42]; rfl) | simp [h42])), e24_0, e24_1, e24_4, e24_6, e24_7, e24_8, rfl, e24_19, rfl⟩
        · -- not: bl
          refine s_off (b' := false) 38 rfl (congrArg Value.bool h42) rfl ?_
          refine s_off (b' := false) 38 rfl (congrArg Value.bool h42) rfl ?_
          refine s_off (b' := false) 38 rfl (congrArg Value.bool h42) rfl ?_
          refine s_op (o_pick_f (u := (.bool false)) ((rfl : _ = _).trans (congrArg Value.bool h42)) rfl ?_)
          refine s_op (o_assign (v := (.bool false)) rfl ?_)
          refine s_nil ?_
          refine t_norm (hK41 _ _ ?_)
          refine wp_seq_k fun K69 hK69 => ?_
          refine c_region ?_
          refine s_op (o_move (v := (S (readS p la ([] : List (Int × Bs)) (x + (i : Int))))) rfl ?_)
          refine s_op (o_callf (vs := #[(S (readS p la ([] : List (Int × Bs)) (x + (i : Int))))]) ca17 rfl (args1 rfl) (hread_c (s := (readS p la ([] : List (Int × Bs)) (x + (i : Int)))) hH36.all (hg.mono (seg_sub 4 rfl)) (by first | omega | (simp only []; omega) | (simp; done) | (simp; omega))) ?_)
          rintro _ w72 ⟨rfl, hX70⟩
          refine ⟨_, rfl, ?_⟩
          have hH71 := hX70.of_all
          have hnn_ := hdP_nn (readS p la ([] : List (Int × Bs)) (x + (i : Int)))
          refine s_op (o_move (v := (.tuple #[(.agg #[(.int .i64 ((hdP (readS p la ([] : List (Int × Bs)) (x + (i : Int)))).1).seq), (.int .i64 ((hdP (readS p la ([] : List (Int × Bs)) (x + (i : Int)))).1).ep), (.int .i64 ((hdP (readS p la ([] : List (Int × Bs)) (x + (i : Int)))).1).cut), (.int .i64 ((hdP (readS p la ([] : List (Int × Bs)) (x + (i : Int)))).1).st), (.int .i64 ((hdP (readS p la ([] : List (Int × Bs)) (x + (i : Int)))).1).mrk)]), (.bool ((hdP (readS p la ([] : List (Int × Bs)) (x + (i : Int)))).2))])) rfl ?_)
          refine s_op (o_extract (v := (.agg #[(.int .i64 ((hdP (readS p la ([] : List (Int × Bs)) (x + (i : Int)))).1).seq), (.int .i64 ((hdP (readS p la ([] : List (Int × Bs)) (x + (i : Int)))).1).ep), (.int .i64 ((hdP (readS p la ([] : List (Int × Bs)) (x + (i : Int)))).1).cut), (.int .i64 ((hdP (readS p la ([] : List (Int × Bs)) (x + (i : Int)))).1).st), (.int .i64 ((hdP (readS p la ([] : List (Int × Bs)) (x + (i : Int)))).1).mrk)])) rfl rfl ?_)
          refine s_op (o_extract (v := (.bool ((hdP (readS p la ([] : List (Int × Bs)) (x + (i : Int)))).2))) rfl rfl ?_)
          refine s_op (o_alloc (cs := #[(.int .i64 0), (.int .i64 0), (.int .i64 0), (.int .i64 0), (.int .i64 0)]) ti25 rfl hH71 fun b73 w74 hH75 => ?_)
          refine s_eff (o_storeN (vs := [(.int .i64 ((hdP (readS p la ([] : List (Int × Bs)) (x + (i : Int)))).1).seq), (.int .i64 ((hdP (readS p la ([] : List (Int × Bs)) (x + (i : Int)))).1).ep), (.int .i64 ((hdP (readS p la ([] : List (Int × Bs)) (x + (i : Int)))).1).cut), (.int .i64 ((hdP (readS p la ([] : List (Int × Bs)) (x + (i : Int)))).1).st), (.int .i64 ((hdP (readS p la ([] : List (Int × Bs)) (x + (i : Int)))).1).mrk)]) (c' := #[(.int .i64 ((hdP (readS p la ([] : List (Int × Bs)) (x + (i : Int)))).1).seq), (.int .i64 ((hdP (readS p la ([] : List (Int × Bs)) (x + (i : Int)))).1).ep), (.int .i64 ((hdP (readS p la ([] : List (Int × Bs)) (x + (i : Int)))).1).cut), (.int .i64 ((hdP (readS p la ([] : List (Int × Bs)) (x + (i : Int)))).1).st), (.int .i64 ((hdP (readS p la ([] : List (Int × Bs)) (x + (i : Int)))).1).mrk)]) ti25 rfl rfl rfl rfl (by intro u hu; simp only [List.mem_cons, List.not_mem_nil, or_false] at hu; rcases hu with rfl | rfl | rfl | rfl | rfl <;> first | rfl) (by simp) (by kernel_rfl) (hH75.front 0 rfl) fun w76 hH77 => ?_)
          refine s_op (o_assign (v := (.bool ((hdP (readS p la ([] : List (Int × Bs)) (x + (i : Int)))).2))) rfl ?_)
          refine s_nil ?_
          refine t_norm (hK69 _ _ ?_)
          refine wp_seq_k fun K78 hK78 => ?_
          refine c_region ?_
          refine s_op (o_move (v := (.bool ((hdP (readS p la ([] : List (Int × Bs)) (x + (i : Int)))).2))) rfl ?_)
          refine s_op (o_move (v := (.bool ((hdP (readS p la ([] : List (Int × Bs)) (x + (i : Int)))).2))) rfl ?_)
          rcases Bool.eq_false_or_eq_true ((hdP (readS p la ([] : List (Int × Bs)) (x + (i : Int)))).2) with h79 | h79
          · -- (hdP (readS p la ([] : List (Int × Bs)) (x + (i : Int)))).2
            refine s_on 49 rfl (congrArg Value.bool h79) (o_fieldAddr (k := 0) (fun _ => by kernel_rfl) rfl ?_)
            refine s_on 49 rfl (congrArg Value.bool h79) (o_load1 (v := (.int .i64 ((hdP (readS p la ([] : List (Int × Bs)) (x + (i : Int)))).1).seq)) Tryd.underlying3 rfl rfl hH77 (seg_sub 0 rfl) (CellsAt.one rfl) ?_)
            refine s_on 49 rfl (congrArg Value.bool h79) (o_rem (a := ((hdP (readS p la ([] : List (Int × Bs)) (x + (i : Int)))).1).seq) (b := 2) (c := (((hdP (readS p la ([] : List (Int × Bs)) (x + (i : Int)))).1).seq) % 2) rfl rfl (by omega) ((Int.tmod_eq_emod_of_nonneg (by first | exact Int.natCast_nonneg _ | omega))) ?_)
            refine s_on 49 rfl (congrArg Value.bool h79) (o_move (v := (.int .i64 (i : Int))) rfl ?_)
            refine s_on 49 rfl (congrArg Value.bool h79) (o_eql (a := (((hdP (readS p la ([] : List (Int × Bs)) (x + (i : Int)))).1).seq) % 2) (b := (i : Int)) rfl rfl ?_)
            refine s_op (o_pick_t (u := (.bool (decide ((((hdP (readS p la ([] : List (Int × Bs)) (x + (i : Int)))).1).seq) % 2 = (i : Int))))) ((rfl : _ = _).trans (congrArg Value.bool h79)) rfl ?_)
            refine s_op (o_move (v := (.bool (decide ((((hdP (readS p la ([] : List (Int × Bs)) (x + (i : Int)))).1).seq) % 2 = (i : Int))))) rfl ?_)
            by_cases h80 : (((hdP (readS p la ([] : List (Int × Bs)) (x + (i : Int)))).1).seq) % 2 = (i : Int)
            · -- (((hdP (readS p la ([] : List (Int × Bs)) (x + (i : Int)))).1).seq) % 2 = (i : Int)
              refine s_on 56 rfl (congrArg Value.bool (decide_eq_true h80)) (o_move (v := (.bool fd)) e24_8 ?_)
              refine s_on 56 rfl (congrArg Value.bool (decide_eq_true h80)) (o_not rfl ?_)
              refine s_on 56 rfl (congrArg Value.bool (decide_eq_true h80)) (o_move (v := (.bool (!fd))) rfl ?_)
              rcases Bool.eq_false_or_eq_true (!fd) with h81 | h81
              · -- !fd
                have h81_n : fd = false := by simpa using h81
                refine s_off (b' := true) 59 rfl (congrArg Value.bool h81) rfl ?_
                refine s_off (b' := true) 59 rfl (congrArg Value.bool h81) rfl ?_
                refine s_off (b' := true) 59 rfl (congrArg Value.bool h81) rfl ?_
                refine s_off (b' := true) 59 rfl (congrArg Value.bool h81) rfl ?_
                refine s_off (b' := true) 59 rfl (congrArg Value.bool h81) rfl ?_
                refine s_on 56 rfl (congrArg Value.bool (decide_eq_true h80)) (o_pick_t (u := (.bool true)) ((rfl : _ = _).trans (congrArg Value.bool h81)) rfl ?_)
                refine s_op (o_pick_t (u := (.bool true)) ((rfl : _ = _).trans (congrArg Value.bool (decide_eq_true h80))) rfl ?_)
                refine s_nil ?_
                refine t_norm (hK78 _ _ ?_)
                refine c_true rfl rfl ?_
                refine c_region ?_
                refine s_op (o_loadN (cs := [(.int .i64 ((hdP (readS p la ([] : List (Int × Bs)) (x + (i : Int)))).1).seq), (.int .i64 ((hdP (readS p la ([] : List (Int × Bs)) (x + (i : Int)))).1).ep), (.int .i64 ((hdP (readS p la ([] : List (Int × Bs)) (x + (i : Int)))).1).cut), (.int .i64 ((hdP (readS p la ([] : List (Int × Bs)) (x + (i : Int)))).1).st), (.int .i64 ((hdP (readS p la ([] : List (Int × Bs)) (x + (i : Int)))).1).mrk)]) Tryd.underlying25 rfl ti25 rfl hH77 (seg_sub 0 rfl) (CellsAt.one rfl) ?_)
                refine s_eff (o_storeN (vs := [(.int .i64 ((hdP (readS p la ([] : List (Int × Bs)) (x + (i : Int)))).1).seq), (.int .i64 ((hdP (readS p la ([] : List (Int × Bs)) (x + (i : Int)))).1).ep), (.int .i64 ((hdP (readS p la ([] : List (Int × Bs)) (x + (i : Int)))).1).cut), (.int .i64 ((hdP (readS p la ([] : List (Int × Bs)) (x + (i : Int)))).1).st), (.int .i64 ((hdP (readS p la ([] : List (Int × Bs)) (x + (i : Int)))).1).mrk)]) (c' := #[(.int .i64 ((hdP (readS p la ([] : List (Int × Bs)) (x + (i : Int)))).1).seq), (.int .i64 ((hdP (readS p la ([] : List (Int × Bs)) (x + (i : Int)))).1).ep), (.int .i64 ((hdP (readS p la ([] : List (Int × Bs)) (x + (i : Int)))).1).cut), (.int .i64 ((hdP (readS p la ([] : List (Int × Bs)) (x + (i : Int)))).1).st), (.int .i64 ((hdP (readS p la ([] : List (Int × Bs)) (x + (i : Int)))).1).mrk)]) ti25 e24_7 rfl rfl rfl (by intro u hu; simp only [List.mem_cons, List.not_mem_nil, or_false] at hu; rcases hu with rfl | rfl | rfl | rfl | rfl <;> first | rfl) (by simp) (by kernel_rfl) (hH77.front 3 rfl) fun w82 hH83 => ?_)
                refine s_op (o_assign (v := (.bool true)) rfl ?_)
                refine s_nil ?_
                refine b_norm ?_
                refine t_norm (hK32 _ _ ?_)
                refine c_region ?_
                refine s_op (o_add (a := (i : Int)) (b := 1) e24_22 rfl (w64 (by omega) (by omega)) ?_)
                refine s_op (o_move (v := (.int .i64 ((i : Int) + 1))) rfl ?_)
                refine s_nil ?_
                have hH84 : Has E w82 [[Hp.one b17 (.cells #[(.int .i64 ((hdP (readS p la ([] : List (Int × Bs)) (x + (i : Int)))).1).seq), (.int .i64 ((hdP (readS p la ([] : List (Int × Bs)) (x + (i : Int)))).1).ep), (.int .i64 ((hdP (readS p la ([] : List (Int × Bs)) (x + (i : Int)))).1).cut), (.int .i64 ((hdP (readS p la ([] : List (Int × Bs)) (x + (i : Int)))).1).st), (.int .i64 ((hdP (readS p la ([] : List (Int × Bs)) (x + (i : Int)))).1).mrk)] 25 (0, 0))], sg, [Hp.one pb (.cells #[(.bool p.off), (.bool p.armed), (.int .i64 p.left), (.int .i64 p.uses)] 50 (0, 0))], [Hp.one b2 (.cells #[(.int .i64 0), (.int .i64 0), (.int .i64 0), (.int .i64 0), (.int .i64 0)] 25 (0, 0))], R] := (((((hH83.front 5 rfl).front 5 rfl).front 5 rfl).front 5 rfl).front 4 rfl).first 5 rfl
                refine t_norm ⟨2 - (i + 1), _, rfl, ?_, ?_⟩
                · omega
                · exact ⟨(i + 1), ((hdP (readS p la ([] : List (Int × Bs)) (x + (i : Int)))).1), true, false, rfl, hH84, (by omega), (ldG_yes hld hsec_ (by first | (simpa using h11) | (simpa using h31) | (simpa using h40) | (simpa using h42) | (simpa using h79) | (simpa using h80) | (simpa using h81) | (simpa using h81_n)) (by first | exact h11 | exact h31 | exact h40 | exact h42 | exact h79 | exact h80 | exact h81 | exact h81_n) (by first | exact .inr (by omega) | exact .inl (by simpa using h11) | exact .inl (by simpa using h31) | exact .inl (by simpa using h40) | exact .inl (by simpa using h42) | exact .inl (by simpa using h79) | exact .inl (by simpa using h80) | exact .inl (by simpa using h81) | exact .inl (by simpa using h81_n))), ((blG_step hbl hsec_ hsl_).trans (by first | rfl | (rw [h42]; rfl) | simp [h42])), e24_0, e24_1, e24_4, e24_6, e24_7, rfl, rfl, e24_19, rfl⟩
              · -- not: !fd
                have h81_n : fd = true := by simpa using h81
                refine s_on 59 rfl (congrArg Value.bool h81) (o_fieldAddr (k := 0) (fun _ => by kernel_rfl) rfl ?_)
                refine s_on 59 rfl (congrArg Value.bool h81) (o_load1 (v := (.int .i64 ((hdP (readS p la ([] : List (Int × Bs)) (x + (i : Int)))).1).seq)) Tryd.underlying3 rfl rfl hH77 (seg_sub 0 rfl) (CellsAt.one rfl) ?_)
                refine s_on 59 rfl (congrArg Value.bool h81) (o_fieldAddr (k := 0) (fun _ => by kernel_rfl) e24_7 ?_)
                refine s_on 59 rfl (congrArg Value.bool h81) (o_load1 (v := (.int .i64 bh.seq)) Tryd.underlying3 rfl rfl hH77 (seg_sub 3 rfl) (CellsAt.one rfl) ?_)
                refine s_on 59 rfl (congrArg Value.bool h81) (o_gtr (a := ((hdP (readS p la ([] : List (Int × Bs)) (x + (i : Int)))).1).seq) (b := bh.seq) rfl rfl ?_)
                refine s_on 56 rfl (congrArg Value.bool (decide_eq_true h80)) (o_pick_f (u := (.bool (decide (bh.seq < ((hdP (readS p la ([] : List (Int × Bs)) (x + (i : Int)))).1).seq)))) ((rfl : _ = _).trans (congrArg Value.bool h81)) rfl ?_)
                refine s_op (o_pick_t (u := (.bool (decide (bh.seq < ((hdP (readS p la ([] : List (Int × Bs)) (x + (i : Int)))).1).seq)))) ((rfl : _ = _).trans (congrArg Value.bool (decide_eq_true h80))) rfl ?_)
                refine s_nil ?_
                refine t_norm (hK78 _ _ ?_)
                refine c_cond rfl (fun h85 => ?_) (fun h85 => ?_)
                · -- bh.seq < ((hdP (readS p la ([] : List (Int × Bs)) (x + (i : Int)))).1).seq
                  refine c_region ?_
                  refine s_op (o_loadN (cs := [(.int .i64 ((hdP (readS p la ([] : List (Int × Bs)) (x + (i : Int)))).1).seq), (.int .i64 ((hdP (readS p la ([] : List (Int × Bs)) (x + (i : Int)))).1).ep), (.int .i64 ((hdP (readS p la ([] : List (Int × Bs)) (x + (i : Int)))).1).cut), (.int .i64 ((hdP (readS p la ([] : List (Int × Bs)) (x + (i : Int)))).1).st), (.int .i64 ((hdP (readS p la ([] : List (Int × Bs)) (x + (i : Int)))).1).mrk)]) Tryd.underlying25 rfl ti25 rfl hH77 (seg_sub 0 rfl) (CellsAt.one rfl) ?_)
                  refine s_eff (o_storeN (vs := [(.int .i64 ((hdP (readS p la ([] : List (Int × Bs)) (x + (i : Int)))).1).seq), (.int .i64 ((hdP (readS p la ([] : List (Int × Bs)) (x + (i : Int)))).1).ep), (.int .i64 ((hdP (readS p la ([] : List (Int × Bs)) (x + (i : Int)))).1).cut), (.int .i64 ((hdP (readS p la ([] : List (Int × Bs)) (x + (i : Int)))).1).st), (.int .i64 ((hdP (readS p la ([] : List (Int × Bs)) (x + (i : Int)))).1).mrk)]) (c' := #[(.int .i64 ((hdP (readS p la ([] : List (Int × Bs)) (x + (i : Int)))).1).seq), (.int .i64 ((hdP (readS p la ([] : List (Int × Bs)) (x + (i : Int)))).1).ep), (.int .i64 ((hdP (readS p la ([] : List (Int × Bs)) (x + (i : Int)))).1).cut), (.int .i64 ((hdP (readS p la ([] : List (Int × Bs)) (x + (i : Int)))).1).st), (.int .i64 ((hdP (readS p la ([] : List (Int × Bs)) (x + (i : Int)))).1).mrk)]) ti25 e24_7 rfl rfl rfl (by intro u hu; simp only [List.mem_cons, List.not_mem_nil, or_false] at hu; rcases hu with rfl | rfl | rfl | rfl | rfl <;> first | rfl) (by simp) (by kernel_rfl) (hH77.front 3 rfl) fun w86 hH87 => ?_)
                  refine s_op (o_assign (v := (.bool true)) rfl ?_)
                  refine s_nil ?_
                  refine b_norm ?_
                  refine t_norm (hK32 _ _ ?_)
                  refine c_region ?_
                  refine s_op (o_add (a := (i : Int)) (b := 1) e24_22 rfl (w64 (by omega) (by omega)) ?_)
                  refine s_op (o_move (v := (.int .i64 ((i : Int) + 1))) rfl ?_)
                  refine s_nil ?_
                  have hH88 : Has E w86 [[Hp.one b17 (.cells #[(.int .i64 ((hdP (readS p la ([] : List (Int × Bs)) (x + (i : Int)))).1).seq), (.int .i64 ((hdP (readS p la ([] : List (Int × Bs)) (x + (i : Int)))).1).ep), (.int .i64 ((hdP (readS p la ([] : List (Int × Bs)) (x + (i : Int)))).1).cut), (.int .i64 ((hdP (readS p la ([] : List (Int × Bs)) (x + (i : Int)))).1).st), (.int .i64 ((hdP (readS p la ([] : List (Int × Bs)) (x + (i : Int)))).1).mrk)] 25 (0, 0))], sg, [Hp.one pb (.cells #[(.bool p.off), (.bool p.armed), (.int .i64 p.left), (.int .i64 p.uses)] 50 (0, 0))], [Hp.one b2 (.cells #[(.int .i64 0), (.int .i64 0), (.int .i64 0), (.int .i64 0), (.int .i64 0)] 25 (0, 0))], R] := (((((hH87.front 5 rfl).front 5 rfl).front 5 rfl).front 5 rfl).front 4 rfl).first 5 rfl
                  refine t_norm ⟨2 - (i + 1), _, rfl, ?_, ?_⟩
                  · omega
                  · exact ⟨(i + 1), ((hdP (readS p la ([] : List (Int × Bs)) (x + (i : Int)))).1), true, false, rfl, hH88, (by omega), (ldG_yes hld hsec_ (by first | (simpa using h11) | (simpa using h31) | (simpa using h40) | (simpa using h42) | (simpa using h79) | (simpa using h80) | (simpa using h81) | (simpa using h81_n) | (simpa using h85)) (by first | exact h11 | exact h31 | exact h40 | exact h42 | exact h79 | exact h80 | exact h81 | exact h81_n | exact h85) (by first | exact .inr (by omega) | exact .inl (by simpa using h11) | exact .inl (by simpa using h31) | exact .inl (by simpa using h40) | exact .inl (by simpa using h42) | exact .inl (by simpa using h79) | exact .inl (by simpa using h80) | exact .inl (by simpa using h81) | exact .inl (by simpa using h81_n) | exact .inl (by simpa using h85))), ((blG_step hbl hsec_ hsl_).trans (by first | rfl | (rw [h42]; rfl) | simp [h42])), e24_0, e24_1, e24_4, e24_6, e24_7, rfl, rfl, e24_19, rfl⟩
                · -- not: bh.seq < ((hdP (readS p la ([] : List (Int × Bs)) (x + (i : Int)))).1).seq
                  refine wp_skip ?_
                  refine b_norm ?_
                  refine t_norm (hK32 _ _ ?_)
                  refine c_region ?_
                  refine s_op (o_add (a := (i : Int)) (b := 1) e24_22 rfl (w64 (by omega) (by omega)) ?_)
                  refine s_op (o_move (v := (.int .i64 ((i : Int) + 1))) rfl ?_)
                  refine s_nil ?_
                  have hH89 : Has E w76 [[Hp.one b17 (.cells #[(.int .i64 bh.seq), (.int .i64 bh.ep), (.int .i64 bh.cut), (.int .i64 bh.st), (.int .i64 bh.mrk)] 25 (0, 0))], sg, [Hp.one pb (.cells #[(.bool p.off), (.bool p.armed), (.int .i64 p.left), (.int .i64 p.uses)] 50 (0, 0))], [Hp.one b2 (.cells #[(.int .i64 0), (.int .i64 0), (.int .i64 0), (.int .i64 0), (.int .i64 0)] 25 (0, 0))], R] := (((((hH77.front 5 rfl).front 5 rfl).front 4 rfl).front 4 rfl).front 5 rfl).first 5 rfl
                  refine t_norm ⟨2 - (i + 1), _, rfl, ?_, ?_⟩
                  · omega
                  · exact ⟨(i + 1), bh, fd, false, rfl, hH89, (by omega), (ldG_no hld hsec_ (.inr (.inr ⟨by first | (simpa using h11) | (simpa using h31) | (simpa using h40) | (simpa using h42) | (simpa using h79) | (simpa using h80) | (simpa using h81) | (simpa using h81_n) | (simpa using h85), by omega⟩))), ((blG_step hbl hsec_ hsl_).trans (by first | rfl | (rw [h42]; rfl) | simp [h42])), e24_0, e24_1, e24_4, e24_6, e24_7, e24_8, rfl, e24_19, rfl⟩
            · -- not: (((hdP (readS p la ([] : List (Int × Bs)) (x + (i : Int)))).1).seq) % 2 = (i : Int)
              refine s_off (b' := false) 56 rfl (congrArg Value.bool (decide_eq_false h80)) rfl ?_
              refine s_off (b' := false) 56 rfl (congrArg Value.bool (decide_eq_false h80)) rfl ?_
              refine s_off (b' := false) 56 rfl (congrArg Value.bool (decide_eq_false h80)) rfl ?_
              refine s_offu 59 rfl rfl ?_
              refine s_offu 59 rfl rfl ?_
              refine s_offu 59 rfl rfl ?_
              refine s_offu 59 rfl rfl ?_
              refine s_offu 59 rfl rfl ?_
              refine s_off (b' := false) 56 rfl (congrArg Value.bool (decide_eq_false h80)) rfl ?_
              refine s_op (o_pick_f (u := (.bool false)) ((rfl : _ = _).trans (congrArg Value.bool (decide_eq_false h80))) rfl ?_)
              refine s_nil ?_
              refine t_norm (hK78 _ _ ?_)
              refine c_false rfl rfl ?_
              refine wp_skip ?_
              refine b_norm ?_
              refine t_norm (hK32 _ _ ?_)
              refine c_region ?_
              refine s_op (o_add (a := (i : Int)) (b := 1) e24_22 rfl (w64 (by omega) (by omega)) ?_)
              refine s_op (o_move (v := (.int .i64 ((i : Int) + 1))) rfl ?_)
              refine s_nil ?_
              have hH90 : Has E w76 [[Hp.one b17 (.cells #[(.int .i64 bh.seq), (.int .i64 bh.ep), (.int .i64 bh.cut), (.int .i64 bh.st), (.int .i64 bh.mrk)] 25 (0, 0))], sg, [Hp.one pb (.cells #[(.bool p.off), (.bool p.armed), (.int .i64 p.left), (.int .i64 p.uses)] 50 (0, 0))], [Hp.one b2 (.cells #[(.int .i64 0), (.int .i64 0), (.int .i64 0), (.int .i64 0), (.int .i64 0)] 25 (0, 0))], R] := (((((hH77.front 5 rfl).front 5 rfl).front 4 rfl).front 4 rfl).front 5 rfl).first 5 rfl
              refine t_norm ⟨2 - (i + 1), _, rfl, ?_, ?_⟩
              · omega
              · exact ⟨(i + 1), bh, fd, false, rfl, hH90, (by omega), (ldG_no hld hsec_ (by first | exact .inl (by simpa using h11) | exact .inr (.inl h11) | exact .inl (by simpa using h31) | exact .inr (.inl h31) | exact .inl (by simpa using h40) | exact .inr (.inl h40) | exact .inl (by simpa using h42) | exact .inr (.inl h42) | exact .inl (by simpa using h79) | exact .inr (.inl h79) | exact .inl (by simpa using h80) | exact .inr (.inl h80))), ((blG_step hbl hsec_ hsl_).trans (by first | rfl | (rw [h42]; rfl) | simp [h42])), e24_0, e24_1, e24_4, e24_6, e24_7, e24_8, rfl, e24_19, rfl⟩
          · -- not: (hdP (readS p la ([] : List (Int × Bs)) (x + (i : Int)))).2
            refine s_off (b' := false) 49 rfl (congrArg Value.bool h79) rfl ?_
            refine s_off (b' := false) 49 rfl (congrArg Value.bool h79) rfl ?_
            refine s_off (b' := false) 49 rfl (congrArg Value.bool h79) rfl ?_
            refine s_off (b' := false) 49 rfl (congrArg Value.bool h79) rfl ?_
            refine s_off (b' := false) 49 rfl (congrArg Value.bool h79) rfl ?_
            refine s_op (o_pick_f (u := (.bool false)) ((rfl : _ = _).trans (congrArg Value.bool h79)) rfl ?_)
            refine s_op (o_move (v := (.bool false)) rfl ?_)
            refine s_off (b' := false) 56 rfl rfl rfl ?_
            refine s_off (b' := false) 56 rfl rfl rfl ?_
            refine s_off (b' := false) 56 rfl rfl rfl ?_
            refine s_offu 59 rfl rfl ?_
            refine s_offu 59 rfl rfl ?_
            refine s_offu 59 rfl rfl ?_
            refine s_offu 59 rfl rfl ?_
            refine s_offu 59 rfl rfl ?_
            refine s_off (b' := false) 56 rfl rfl rfl ?_
            refine s_op (o_pick_f (u := (.bool false)) rfl rfl ?_)
            refine s_nil ?_
            refine t_norm (hK78 _ _ ?_)
            refine c_false rfl rfl ?_
            refine wp_skip ?_
            refine b_norm ?_
            refine t_norm (hK32 _ _ ?_)
            refine c_region ?_
            refine s_op (o_add (a := (i : Int)) (b := 1) e24_22 rfl (w64 (by omega) (by omega)) ?_)
            refine s_op (o_move (v := (.int .i64 ((i : Int) + 1))) rfl ?_)
            refine s_nil ?_
            have hH91 : Has E w76 [[Hp.one b17 (.cells #[(.int .i64 bh.seq), (.int .i64 bh.ep), (.int .i64 bh.cut), (.int .i64 bh.st), (.int .i64 bh.mrk)] 25 (0, 0))], sg, [Hp.one pb (.cells #[(.bool p.off), (.bool p.armed), (.int .i64 p.left), (.int .i64 p.uses)] 50 (0, 0))], [Hp.one b2 (.cells #[(.int .i64 0), (.int .i64 0), (.int .i64 0), (.int .i64 0), (.int .i64 0)] 25 (0, 0))], R] := (((((hH77.front 5 rfl).front 5 rfl).front 4 rfl).front 4 rfl).front 5 rfl).first 5 rfl
            refine t_norm ⟨2 - (i + 1), _, rfl, ?_, ?_⟩
            · omega
            · exact ⟨(i + 1), bh, fd, false, rfl, hH91, (by omega), (ldG_no hld hsec_ (by first | exact .inl (by simpa using h11) | exact .inr (.inl h11) | exact .inl (by simpa using h31) | exact .inr (.inl h31) | exact .inl (by simpa using h40) | exact .inr (.inl h40) | exact .inl (by simpa using h42) | exact .inr (.inl h42) | exact .inl (by simpa using h79) | exact .inr (.inl h79))), ((blG_step hbl hsec_ hsl_).trans (by first | rfl | (rw [h42]; rfl) | simp [h42])), e24_0, e24_1, e24_4, e24_6, e24_7, e24_8, rfl, e24_19, rfl⟩
    · -- not: (i : Int) < 2
      refine wp_exit ?_
      refine t_exit (t_exit (x_in (?_)))
      refine t_norm (hK21 _ _ ?_)
      refine wp_seq_k fun K92 hK92 => ?_
      refine wp_block ?_
      refine wp_seq_k fun K93 hK93 => ?_
      refine c_region ?_
      refine s_op (o_move (v := (.bool fd)) e24_8 ?_)
      refine s_op (o_assign (v := (.bool fd)) rfl ?_)
      refine s_nil ?_
      refine t_norm (hK93 _ _ ?_)
      refine c_condb rfl (fun h94 => ?_) (fun h94 => ?_)
      · -- fd
        refine wp_seq_k fun K95 hK95 => ?_
        refine c_region ?_
        refine s_op (o_loadN (cs := [(.int .i64 bh.seq), (.int .i64 bh.ep), (.int .i64 bh.cut), (.int .i64 bh.st), (.int .i64 bh.mrk)]) Tryd.underlying25 rfl ti25 e24_7 hH27 (seg_sub 0 rfl) (CellsAt.one rfl) ?_)
        refine s_eff (o_storeN (vs := [(.int .i64 bh.seq), (.int .i64 bh.ep), (.int .i64 bh.cut), (.int .i64 bh.st), (.int .i64 bh.mrk)]) (c' := #[(.int .i64 bh.seq), (.int .i64 bh.ep), (.int .i64 bh.cut), (.int .i64 bh.st), (.int .i64 bh.mrk)]) ti25 e24_4 rfl rfl rfl (by intro u hu; simp only [List.mem_cons, List.not_mem_nil, or_false] at hu; rcases hu with rfl | rfl | rfl | rfl | rfl <;> first | rfl) (by simp) (by kernel_rfl) (hH27.front 3 rfl) fun w96 hH97 => ?_)
        refine s_op (o_assign (v := (.int .i64 0)) rfl ?_)
        refine s_nil ?_
        refine t_norm (hK95 _ _ ?_)
        refine wp_ret ?_
        refine b_ret (t_ret (c_retC2 Tryd.results6 e24_4 (run_loadVarN (cs := [(.int .i64 bh.seq), (.int .i64 bh.ep), (.int .i64 bh.cut), (.int .i64 bh.st), (.int .i64 bh.mrk)]) Tryd.underlying25 rfl ti25 hH97 (seg_sub 0 rfl) (CellsAt.one rfl)) (x := (.int .i64 0)) rfl ?_))
        have hH98 : Has E w96 [sg, [Hp.one pb (.cells #[(.bool p.off), (.bool p.armed), (.int .i64 p.left), (.int .i64 p.uses)] 50 (0, 0))], R] := (((hH97.front 4 rfl).front 4 rfl).front 4 rfl).first 3 rfl
        have ei_ : i = 2 := by omega
        subst ei_
        obtain ⟨e1_, e2_⟩ := ld_two hth_.1 hth_.2
        rw [hld] at e1_ e2_
        rw [hbl] at e2_
        exact ⟨by rw [e1_, e2_]; simp only [h94]; rfl, hH98⟩
      · -- not: fd
        refine wp_seq_k fun K99 hK99 => ?_
        refine c_region ?_
        refine s_op (o_move (v := (.bool bl)) e24_9 ?_)
        refine s_op (o_assign (v := (.bool bl)) rfl ?_)
        refine s_nil ?_
        refine t_norm (hK99 _ _ ?_)
        refine c_condb rfl (fun h100 => ?_) (fun h100 => ?_)
        · -- bl
          refine wp_seq_k fun K101 hK101 => ?_
          refine c_region ?_
          refine s_op (o_sight (v := (.agg #[(.int .i64 0), (.int .i64 0), (.int .i64 0), (.int .i64 0), (.int .i64 0)])) (fun _ => by kernel_rfl) ?_)
          refine s_eff (o_storeN (vs := [(.int .i64 0), (.int .i64 0), (.int .i64 0), (.int .i64 0), (.int .i64 0)]) (c' := #[(.int .i64 0), (.int .i64 0), (.int .i64 0), (.int .i64 0), (.int .i64 0)]) ti25 e24_4 rfl rfl rfl (by intro u hu; simp only [List.mem_cons, List.not_mem_nil, or_false] at hu; rcases hu with rfl | rfl | rfl | rfl | rfl <;> first | rfl) (by simp) (by kernel_rfl) (hH27.front 3 rfl) fun w102 hH103 => ?_)
          refine s_op (o_assign (v := (.int .i64 7)) rfl ?_)
          refine s_nil ?_
          refine t_norm (hK101 _ _ ?_)
          refine wp_ret ?_
          refine b_ret (t_ret (c_retC2 Tryd.results6 e24_4 (run_loadVarN (cs := [(.int .i64 0), (.int .i64 0), (.int .i64 0), (.int .i64 0), (.int .i64 0)]) Tryd.underlying25 rfl ti25 hH103 (seg_sub 0 rfl) (CellsAt.one rfl)) (x := (.int .i64 7)) rfl ?_))
          have hH104 : Has E w102 [sg, [Hp.one pb (.cells #[(.bool p.off), (.bool p.armed), (.int .i64 p.left), (.int .i64 p.uses)] 50 (0, 0))], R] := (((hH103.front 4 rfl).front 4 rfl).front 4 rfl).first 3 rfl
          have ei_ : i = 2 := by omega
          subst ei_
          obtain ⟨e1_, e2_⟩ := ld_two hth_.1 hth_.2
          rw [hld] at e1_ e2_
          rw [hbl] at e2_
          exact ⟨by rw [e1_, e2_]; simp only [h94, h100]; rfl, hH104⟩
        · -- not: bl
          refine wp_skip ?_
          refine b_norm ?_
          refine t_norm (hK92 _ _ ?_)
          refine wp_seq_k fun K105 hK105 => ?_
          refine c_region ?_
          refine s_op (o_sight (v := (.agg #[(.int .i64 0), (.int .i64 0), (.int .i64 0), (.int .i64 0), (.int .i64 0)])) (fun _ => by kernel_rfl) ?_)
          refine s_eff (o_storeN (vs := [(.int .i64 0), (.int .i64 0), (.int .i64 0), (.int .i64 0), (.int .i64 0)]) (c' := #[(.int .i64 0), (.int .i64 0), (.int .i64 0), (.int .i64 0), (.int .i64 0)]) ti25 e24_4 rfl rfl rfl (by intro u hu; simp only [List.mem_cons, List.not_mem_nil, or_false] at hu; rcases hu with rfl | rfl | rfl | rfl | rfl <;> first | rfl) (by simp) (by kernel_rfl) (hH27.front 3 rfl) fun w106 hH107 => ?_)
          refine s_op (o_assign (v := (.int .i64 9)) rfl ?_)
          refine s_nil ?_
          refine t_norm (hK105 _ _ ?_)
          refine wp_ret ?_
          refine c_retC2 Tryd.results6 e24_4 (run_loadVarN (cs := [(.int .i64 0), (.int .i64 0), (.int .i64 0), (.int .i64 0), (.int .i64 0)]) Tryd.underlying25 rfl ti25 hH107 (seg_sub 0 rfl) (CellsAt.one rfl)) (x := (.int .i64 9)) rfl ?_
          have hH108 : Has E w106 [sg, [Hp.one pb (.cells #[(.bool p.off), (.bool p.armed), (.int .i64 p.left), (.int .i64 p.uses)] 50 (0, 0))], R] := (((hH107.front 4 rfl).front 4 rfl).front 4 rfl).first 3 rfl
          have ei_ : i = 2 := by omega
          subst ei_
          obtain ⟨e1_, e2_⟩ := ld_two hth_.1 hth_.2
          rw [hld] at e1_ e2_
          rw [hbl] at e2_
          exact ⟨by rw [e1_, e2_]; simp only [h94, h100]; rfl, hH108⟩
end Go.Q
namespace Go.Q
open Go.Proofs
set_option linter.unusedVariables false
set_option maxRecDepth 100000
attribute [local irreducible] wpList OK Code.wp
theorem hsave_ok {E w : World} {R sg : List Hp} {pb db : Nat} {p : Pw} {la : List Bs} (hH : Has E w [sg, [Hp.one pb (.cells #[(.bool p.off), (.bool p.armed), (.int .i64 p.left), (.int .i64 p.uses)] 50 (0, 0))], R]) (hd : DevAt pb sg db la []) (hg : CellsAt R 0 0 nibV) (hp : PwOk p) (hq : PwOk (useS p)) (hla : la.length ≤ 4096) {x : Int} {h : Hd} (hT : svTry la.length x h) (hb : useB p = true) (hb2 : useB (useS p) = true) :
    Calls Tryd.prog 7 #[.pointer (some ⟨db, 0, none⟩), .int .i64 x, .agg #[(.int .i64 h.seq), (.int .i64 h.ep), (.int .i64 h.cut), (.int .i64 h.st), (.int .i64 h.mrk)]] w fun e w' => ∃ sg', e = .returned (.tuple #[.agg #[(.int .i64 (hdUp h).seq), (.int .i64 (hdUp h).ep), (.int .i64 (hdUp h).cut), (.int .i64 (hdUp h).st), (.int .i64 (hdUp h).mrk)], .int .i64 0]) ∧ DevAt pb sg' db (la.set (svN x h).toNat (hdL (hdUp h))) [] ∧ Has E w' [sg', [Hp.one pb (.cells #[(.bool (useS (useS p)).off), (.bool (useS (useS p)).armed), (.int .i64 (useS (useS p)).left), (.int .i64 (useS (useS p)).uses)] 50 (0, 0))], R] := by
  have h_ := hsave_c hH hd hg hp hq hla x (h := h)
  obtain ⟨e1, e2, e3, e4, e5⟩ := sv_done hT hb hb2
  rw [e1, e2, e3, e4, e5] at h_
  exact h_
theorem hsave_no {E w : World} {R sg : List Hp} {pb db : Nat} {p : Pw} {la : List Bs} (hH : Has E w [sg, [Hp.one pb (.cells #[(.bool p.off), (.bool p.armed), (.int .i64 p.left), (.int .i64 p.uses)] 50 (0, 0))], R]) (hd : DevAt pb sg db la []) (hg : CellsAt R 0 0 nibV) (hp : PwOk p) (hq : PwOk (useS p)) (hla : la.length ≤ 4096) {x : Int} {h : Hd} (hT : ¬ svTry la.length x h) :
    Calls Tryd.prog 7 #[.pointer (some ⟨db, 0, none⟩), .int .i64 x, .agg #[(.int .i64 h.seq), (.int .i64 h.ep), (.int .i64 h.cut), (.int .i64 h.st), (.int .i64 h.mrk)]] w fun e w' => ∃ sg', e = .returned (.tuple #[.agg #[(.int .i64 hdZ.seq), (.int .i64 hdZ.ep), (.int .i64 hdZ.cut), (.int .i64 hdZ.st), (.int .i64 hdZ.mrk)], .int .i64 1]) ∧ DevAt pb sg' db la [] ∧ Has E w' [sg', [Hp.one pb (.cells #[(.bool p.off), (.bool p.armed), (.int .i64 p.left), (.int .i64 p.uses)] 50 (0, 0))], R] := by
  have h_ := hsave_c hH hd hg hp hq hla x (h := h)
  obtain ⟨e1, e2, e3, e4, e5⟩ := sv_no (p := p) hT
  rw [e1, e2, e3, e4, e5] at h_
  exact h_
theorem hsave_late {E w : World} {R sg : List Hp} {pb db : Nat} {p : Pw} {la : List Bs} (hH : Has E w [sg, [Hp.one pb (.cells #[(.bool p.off), (.bool p.armed), (.int .i64 p.left), (.int .i64 p.uses)] 50 (0, 0))], R]) (hd : DevAt pb sg db la []) (hg : CellsAt R 0 0 nibV) (hp : PwOk p) (hq : PwOk (useS p)) (hla : la.length ≤ 4096) {x : Int} {h : Hd} (hT : svTry la.length x h) (hb : ¬ (useB p = true ∧ useB (useS p) = true)) :
    Calls Tryd.prog 7 #[.pointer (some ⟨db, 0, none⟩), .int .i64 x, .agg #[(.int .i64 h.seq), (.int .i64 h.ep), (.int .i64 h.cut), (.int .i64 h.st), (.int .i64 h.mrk)]] w fun e w' => ∃ sg' p' lo', e = .returned (.tuple #[.agg #[(.int .i64 hdZ.seq), (.int .i64 hdZ.ep), (.int .i64 hdZ.cut), (.int .i64 hdZ.st), (.int .i64 hdZ.mrk)], .int .i64 6]) ∧ (p' = useS p ∨ p' = useS (useS p)) ∧ (lo' = [] ∨ lo' = [(svN x h, hdL (hdUp h))]) ∧ DevAt pb sg' db la lo' ∧ Has E w' [sg', [Hp.one pb (.cells #[(.bool p'.off), (.bool p'.armed), (.int .i64 p'.left), (.int .i64 p'.uses)] 50 (0, 0))], R] := by
  have h_ := hsave_c hH hd hg hp hq hla x (h := h)
  cases b1 : useB p with
  | false =>
    obtain ⟨e1, e2, e3, e4, e5⟩ := sv_off hT b1
    rw [e1, e2, e3, e4, e5] at h_
    exact h_.mono fun e w' ⟨sg', h1, h2, h3⟩ => ⟨sg', _, _, h1, .inl rfl, .inl rfl, h2, h3⟩
  | true =>
    cases b2 : useB (useS p) with
    | true => exact absurd ⟨b1, b2⟩ hb
    | false =>
      obtain ⟨e1, e2, e3, e4, e5⟩ := sv_late hT b1 b2
      rw [e1, e2, e3, e4, e5] at h_
      exact h_.mono fun e w' ⟨sg', h1, h2, h3⟩ => ⟨sg', _, _, h1, .inr rfl, .inr rfl, h2, h3⟩
end Go.Q
namespace Go.Q
theorem S_beq' (a b : List UInt8) : ((⟨a.toArray⟩ : ByteArray).toList == (⟨b.toArray⟩ : ByteArray).toList) = decide (a = b) := by
  rw [bytes_toList, bytes_toList]
  by_cases h : a = b
  · subst h; simp
  · rw [decide_eq_false h]; simpa using h
theorem int_beq' (a b : Int) : (a == b) = decide (a = b) := by
  by_cases h : a = b
  · subst h; simp
  · rw [decide_eq_false h]; simpa using h
theorem bool_beq' (a b : Bool) : (a == b) = decide (a = b) := by cases a <;> cases b <;> rfl
theorem part1 {P : Program} {t : TypeId} {d : TypeDesc} (ht : P.underlying t = some d) (hd : aggB d = false) {xs : Array Value} {o : Nat} {v : Value} (hv : xs[o]? = some v) (w : World) : (part t xs o).run P w = .ok v w := by
  unfold part
  rw [Sem.run_bind, run_isAgg ht, hd]
  simp [hv]
theorem partN {P : Program} {t : TypeId} {d : TypeDesc} {z : Value} {sz by_ : Nat} (ht : P.underlying t = some d) (hd : aggB d = true) (hi : TI P t z sz by_) {xs ys : Array Value} {o : Nat} (hv : xs.extract o (o + sz) = ys) (w : World) : (part t xs o).run P w = .ok (.agg ys) w := by
  unfold part
  rw [Sem.run_bind, run_isAgg ht, hd]
  simp only [Result.andThen_ok, if_true, Sem.run_bind, hi.size, Sem.run_pure, hv]
theorem eqC_nil {P : Program} {d : Nat} {xs ys : Array Value} {w : World} : (Op.eqFields d xs ys []).run P w = .ok true w := rfl
theorem eqC_cons {P : Program} {d : Nat} {xs ys : Array Value} {f : Field} {fs : List Field} {a b : Value} {r r' : Bool} {w : World} {ft fo : Nat} (h : (f.type, f.offset, f.name == "_") = (ft, fo, false)) (ha : (part ft xs fo).run P w = .ok a w) (hb : (part ft ys fo).run P w = .ok b w)
    (he : (Op.equalIn d ft a b).run P w = .ok r w) (hk : (Op.eqFields d xs ys fs).run P w = .ok r' w) : (Op.eqFields d xs ys (f :: fs)).run P w = .ok (r && r') w := by
  simp only [Prod.mk.injEq] at h
  obtain ⟨rfl, rfl, hn⟩ := h
  have hn' : f.name ≠ "_" := by simpa using hn
  rw [Op.eqFields, if_pos hn']
  simp only [Sem.run_bind, ha, hb, he, Result.andThen_ok]
  cases r
  · simp
  · simpa using hk
theorem eqC_fields {P : Program} {d : Nat} {xs ys : Array Value} {r : Bool} {w : World} {l : List Field} {m : List (Nat × Nat × Bool)} (hf : l.map (fun f => (f.type, f.offset, f.name == "_")) = m) (h : ∀ l : List Field, l.map (fun f => (f.type, f.offset, f.name == "_")) = m → (Op.eqFields d xs ys l).run P w = .ok r w) :
    (Op.eqFields d xs ys l).run P w = .ok r w := h l hf
theorem eq_int {P : Program} {t : TypeId} {k' : IntKind} (h : P.underlying t = some (.int k')) (d : Nat) (k : IntKind) (a b : Int) (w : World) : (Op.equalIn (d + 1) t (.int k a) (.int k b)).run P w = .ok (decide (a = b)) w := by rw [run_equalIn_int w d t _ _ _ _ h, int_beq']
theorem eq_bool {P : Program} {t : TypeId} (h : P.underlying t = some .bool) (d : Nat) (a b : Bool) (w : World) : (Op.equalIn (d + 1) t (.bool a) (.bool b)).run P w = .ok (decide (a = b)) w := by rw [run_equalIn_bool' w d t _ _ h, bool_beq']
theorem eq_str {P : Program} {t : TypeId} (h : P.underlying t = some .string) (d : Nat) (a b : List UInt8) (w : World) : (Op.equalIn (d + 1) t (S a) (S b)).run P w = .ok (decide (a = b)) w := by
  unfold S; rw [run_equalIn_string w d t _ _ h, S_beq']
end Go.Q
namespace Go.Q
open Go.Proofs
set_option linter.unusedVariables false
set_option maxRecDepth 100000
def eqv25 (a0 : Int) (a1 : Int) (a2 : Int) (a3 : Int) (a4 : Int) (b0 : Int) (b1 : Int) (b2 : Int) (b3 : Int) (b4 : Int) : Bool := (decide (a0 = b0) && (decide (a1 = b1) && (decide (a2 = b2) && (decide (a3 = b3) && (decide (a4 = b4) && true)))))
theorem eqT25 (d : Nat) (w : World) (a0 : Int) (a1 : Int) (a2 : Int) (a3 : Int) (a4 : Int) (b0 : Int) (b1 : Int) (b2 : Int) (b3 : Int) (b4 : Int) : (Op.equalIn (d + 2) 25 (.agg #[(.int .i64 a0), (.int .i64 a1), (.int .i64 a2), (.int .i64 a3), (.int .i64 a4)]) (.agg #[(.int .i64 b0), (.int .i64 b1), (.int .i64 b2), (.int .i64 b3), (.int .i64 b4)])).run Tryd.prog w = .ok (eqv25 a0 a1 a2 a3 a4 b0 b1 b2 b3 b4) w := by
  rw [run_equalIn_struct w _ 25 _ _ (by kernel_rfl) (by kernel_rfl)]
  refine eqC_fields (m := [(3, 0, false), (3, 1, false), (3, 2, false), (3, 3, false), (3, 4, false)]) (by kernel_rfl) fun l hl => ?_
  obtain ⟨f0, l0, rfl, h0, hl⟩ := List.map_eq_cons_iff.1 hl
  refine eqC_cons (ft := 3) (fo := 0) (a := (.int .i64 a0)) (b := (.int .i64 b0)) h0 (part1 Tryd.underlying3 rfl (by kernel_rfl) w) (part1 Tryd.underlying3 rfl (by kernel_rfl) w) (eq_int Tryd.underlying3 (d + 0) _ _ _ w) ?_
  obtain ⟨f1, l1, rfl, h1, hl⟩ := List.map_eq_cons_iff.1 hl
  refine eqC_cons (ft := 3) (fo := 1) (a := (.int .i64 a1)) (b := (.int .i64 b1)) h1 (part1 Tryd.underlying3 rfl (by kernel_rfl) w) (part1 Tryd.underlying3 rfl (by kernel_rfl) w) (eq_int Tryd.underlying3 (d + 0) _ _ _ w) ?_
  obtain ⟨f2, l2, rfl, h2, hl⟩ := List.map_eq_cons_iff.1 hl
  refine eqC_cons (ft := 3) (fo := 2) (a := (.int .i64 a2)) (b := (.int .i64 b2)) h2 (part1 Tryd.underlying3 rfl (by kernel_rfl) w) (part1 Tryd.underlying3 rfl (by kernel_rfl) w) (eq_int Tryd.underlying3 (d + 0) _ _ _ w) ?_
  obtain ⟨f3, l3, rfl, h3, hl⟩ := List.map_eq_cons_iff.1 hl
  refine eqC_cons (ft := 3) (fo := 3) (a := (.int .i64 a3)) (b := (.int .i64 b3)) h3 (part1 Tryd.underlying3 rfl (by kernel_rfl) w) (part1 Tryd.underlying3 rfl (by kernel_rfl) w) (eq_int Tryd.underlying3 (d + 0) _ _ _ w) ?_
  obtain ⟨f4, l4, rfl, h4, hl⟩ := List.map_eq_cons_iff.1 hl
  refine eqC_cons (ft := 3) (fo := 4) (a := (.int .i64 a4)) (b := (.int .i64 b4)) h4 (part1 Tryd.underlying3 rfl (by kernel_rfl) w) (part1 Tryd.underlying3 rfl (by kernel_rfl) w) (eq_int Tryd.underlying3 (d + 0) _ _ _ w) ?_
  obtain rfl := List.map_eq_nil_iff.1 hl
  exact eqC_nil
theorem o_eql25 {ρ : Operand → Value} {w : World} {K : Value → World → Prop} {dst : Option Tmp} {T : TypeId} {pos : String} {after : Array Edge} {g : Option (Nat × Bool)} {u : TypeId} {x y : Operand} (a0 : Int) (a1 : Int) (a2 : Int) (a3 : Int) (a4 : Int) (b0 : Int) (b1 : Int) (b2 : Int) (b3 : Int) (b4 : Int) (hx : ρ x = .agg #[(.int .i64 a0), (.int .i64 a1), (.int .i64 a2), (.int .i64 a3), (.int .i64 a4)]) (hy : ρ y = .agg #[(.int .i64 b0), (.int .i64 b1), (.int .i64 b2), (.int .i64 b3), (.int .i64 b4)]) (h : K (.bool ((eqv25 a0 a1 a2 a3 a4 b0 b1 b2 b3 b4))) w) :
    OK Tryd.prog ⟨dst, .binOp .eql 25 x y u, T, pos, after, g⟩ ρ w K :=
  o_eqx hx hy (run_eqGuard_agg w _ _ _ _ _ _ (by kernel_rfl)) rfl (eqT25 (9998) w a0 a1 a2 a3 a4 b0 b1 b2 b3 b4) h
theorem o_neq25 {ρ : Operand → Value} {w : World} {K : Value → World → Prop} {dst : Option Tmp} {T : TypeId} {pos : String} {after : Array Edge} {g : Option (Nat × Bool)} {u : TypeId} {x y : Operand} (a0 : Int) (a1 : Int) (a2 : Int) (a3 : Int) (a4 : Int) (b0 : Int) (b1 : Int) (b2 : Int) (b3 : Int) (b4 : Int) (hx : ρ x = .agg #[(.int .i64 a0), (.int .i64 a1), (.int .i64 a2), (.int .i64 a3), (.int .i64 a4)]) (hy : ρ y = .agg #[(.int .i64 b0), (.int .i64 b1), (.int .i64 b2), (.int .i64 b3), (.int .i64 b4)]) (h : K (.bool (!(eqv25 a0 a1 a2 a3 a4 b0 b1 b2 b3 b4))) w) :
    OK Tryd.prog ⟨dst, .binOp .neq 25 x y u, T, pos, after, g⟩ ρ w K :=
  o_nex hx hy (run_eqGuard_agg w _ _ _ _ _ _ (by kernel_rfl)) rfl (eqT25 (9998) w a0 a1 a2 a3 a4 b0 b1 b2 b3 b4) h
theorem eqv25_iff (a0 : Int) (a1 : Int) (a2 : Int) (a3 : Int) (a4 : Int) (b0 : Int) (b1 : Int) (b2 : Int) (b3 : Int) (b4 : Int) : eqv25 a0 a1 a2 a3 a4 b0 b1 b2 b3 b4 = true ↔ a0 = b0 ∧ a1 = b1 ∧ a2 = b2 ∧ a3 = b3 ∧ a4 = b4 := by
  unfold eqv25; simp
theorem eqv25_dec (a0 : Int) (a1 : Int) (a2 : Int) (a3 : Int) (a4 : Int) (b0 : Int) (b1 : Int) (b2 : Int) (b3 : Int) (b4 : Int) : eqv25 a0 a1 a2 a3 a4 b0 b1 b2 b3 b4 = decide (a0 = b0 ∧ a1 = b1 ∧ a2 = b2 ∧ a3 = b3 ∧ a4 = b4) := by rw [Bool.eq_iff_iff, eqv25_iff, decide_eq_true_iff]
def eqv23 (a0 : Int) (a1 : Int) (a2 : Int) (a3 : Int) (a4 : Int) (b0 : Int) (b1 : Int) (b2 : Int) (b3 : Int) (b4 : Int) : Bool := (decide (a0 = b0) && (decide (a1 = b1) && (decide (a2 = b2) && (decide (a3 = b3) && (decide (a4 = b4) && true)))))
theorem eqT23 (d : Nat) (w : World) (a0 : Int) (a1 : Int) (a2 : Int) (a3 : Int) (a4 : Int) (b0 : Int) (b1 : Int) (b2 : Int) (b3 : Int) (b4 : Int) : (Op.equalIn (d + 2) 23 (.agg #[(.int .i64 a0), (.int .i64 a1), (.int .i64 a2), (.int .i64 a3), (.int .i64 a4)]) (.agg #[(.int .i64 b0), (.int .i64 b1), (.int .i64 b2), (.int .i64 b3), (.int .i64 b4)])).run Tryd.prog w = .ok (eqv23 a0 a1 a2 a3 a4 b0 b1 b2 b3 b4) w := by
  rw [run_equalIn_struct w _ 23 _ _ (by kernel_rfl) (by kernel_rfl)]
  refine eqC_fields (m := [(3, 0, false), (3, 1, false), (3, 2, false), (3, 3, false), (3, 4, false)]) (by kernel_rfl) fun l hl => ?_
  obtain ⟨f0, l0, rfl, h0, hl⟩ := List.map_eq_cons_iff.1 hl
  refine eqC_cons (ft := 3) (fo := 0) (a := (.int .i64 a0)) (b := (.int .i64 b0)) h0 (part1 Tryd.underlying3 rfl (by kernel_rfl) w) (part1 Tryd.underlying3 rfl (by kernel_rfl) w) (eq_int Tryd.underlying3 (d + 0) _ _ _ w) ?_
  obtain ⟨f1, l1, rfl, h1, hl⟩ := List.map_eq_cons_iff.1 hl
  refine eqC_cons (ft := 3) (fo := 1) (a := (.int .i64 a1)) (b := (.int .i64 b1)) h1 (part1 Tryd.underlying3 rfl (by kernel_rfl) w) (part1 Tryd.underlying3 rfl (by kernel_rfl) w) (eq_int Tryd.underlying3 (d + 0) _ _ _ w) ?_
  obtain ⟨f2, l2, rfl, h2, hl⟩ := List.map_eq_cons_iff.1 hl
  refine eqC_cons (ft := 3) (fo := 2) (a := (.int .i64 a2)) (b := (.int .i64 b2)) h2 (part1 Tryd.underlying3 rfl (by kernel_rfl) w) (part1 Tryd.underlying3 rfl (by kernel_rfl) w) (eq_int Tryd.underlying3 (d + 0) _ _ _ w) ?_
  obtain ⟨f3, l3, rfl, h3, hl⟩ := List.map_eq_cons_iff.1 hl
  refine eqC_cons (ft := 3) (fo := 3) (a := (.int .i64 a3)) (b := (.int .i64 b3)) h3 (part1 Tryd.underlying3 rfl (by kernel_rfl) w) (part1 Tryd.underlying3 rfl (by kernel_rfl) w) (eq_int Tryd.underlying3 (d + 0) _ _ _ w) ?_
  obtain ⟨f4, l4, rfl, h4, hl⟩ := List.map_eq_cons_iff.1 hl
  refine eqC_cons (ft := 3) (fo := 4) (a := (.int .i64 a4)) (b := (.int .i64 b4)) h4 (part1 Tryd.underlying3 rfl (by kernel_rfl) w) (part1 Tryd.underlying3 rfl (by kernel_rfl) w) (eq_int Tryd.underlying3 (d + 0) _ _ _ w) ?_
  obtain rfl := List.map_eq_nil_iff.1 hl
  exact eqC_nil
theorem o_eql23 {ρ : Operand → Value} {w : World} {K : Value → World → Prop} {dst : Option Tmp} {T : TypeId} {pos : String} {after : Array Edge} {g : Option (Nat × Bool)} {u : TypeId} {x y : Operand} (a0 : Int) (a1 : Int) (a2 : Int) (a3 : Int) (a4 : Int) (b0 : Int) (b1 : Int) (b2 : Int) (b3 : Int) (b4 : Int) (hx : ρ x = .agg #[(.int .i64 a0), (.int .i64 a1), (.int .i64 a2), (.int .i64 a3), (.int .i64 a4)]) (hy : ρ y = .agg #[(.int .i64 b0), (.int .i64 b1), (.int .i64 b2), (.int .i64 b3), (.int .i64 b4)]) (h : K (.bool ((eqv23 a0 a1 a2 a3 a4 b0 b1 b2 b3 b4))) w) :
    OK Tryd.prog ⟨dst, .binOp .eql 23 x y u, T, pos, after, g⟩ ρ w K :=
  o_eqx hx hy (run_eqGuard_agg w _ _ _ _ _ _ (by kernel_rfl)) rfl (eqT23 (9998) w a0 a1 a2 a3 a4 b0 b1 b2 b3 b4) h
theorem o_neq23 {ρ : Operand → Value} {w : World} {K : Value → World → Prop} {dst : Option Tmp} {T : TypeId} {pos : String} {after : Array Edge} {g : Option (Nat × Bool)} {u : TypeId} {x y : Operand} (a0 : Int) (a1 : Int) (a2 : Int) (a3 : Int) (a4 : Int) (b0 : Int) (b1 : Int) (b2 : Int) (b3 : Int) (b4 : Int) (hx : ρ x = .agg #[(.int .i64 a0), (.int .i64 a1), (.int .i64 a2), (.int .i64 a3), (.int .i64 a4)]) (hy : ρ y = .agg #[(.int .i64 b0), (.int .i64 b1), (.int .i64 b2), (.int .i64 b3), (.int .i64 b4)]) (h : K (.bool (!(eqv23 a0 a1 a2 a3 a4 b0 b1 b2 b3 b4))) w) :
    OK Tryd.prog ⟨dst, .binOp .neq 23 x y u, T, pos, after, g⟩ ρ w K :=
  o_nex hx hy (run_eqGuard_agg w _ _ _ _ _ _ (by kernel_rfl)) rfl (eqT23 (9998) w a0 a1 a2 a3 a4 b0 b1 b2 b3 b4) h
theorem eqv23_iff (a0 : Int) (a1 : Int) (a2 : Int) (a3 : Int) (a4 : Int) (b0 : Int) (b1 : Int) (b2 : Int) (b3 : Int) (b4 : Int) : eqv23 a0 a1 a2 a3 a4 b0 b1 b2 b3 b4 = true ↔ a0 = b0 ∧ a1 = b1 ∧ a2 = b2 ∧ a3 = b3 ∧ a4 = b4 := by
  unfold eqv23; simp
theorem eqv23_dec (a0 : Int) (a1 : Int) (a2 : Int) (a3 : Int) (a4 : Int) (b0 : Int) (b1 : Int) (b2 : Int) (b3 : Int) (b4 : Int) : eqv23 a0 a1 a2 a3 a4 b0 b1 b2 b3 b4 = decide (a0 = b0 ∧ a1 = b1 ∧ a2 = b2 ∧ a3 = b3 ∧ a4 = b4) := by rw [Bool.eq_iff_iff, eqv23_iff, decide_eq_true_iff]
end Go.Q
namespace Go.Q
open Go.Proofs
set_option linter.unusedVariables false
set_option maxRecDepth 100000
attribute [local irreducible] wpList OK Code.wp
set_option maxHeartbeats 4000000 in
theorem awake7_c {E w : World} {R : List Hp} (hH : Has E w [R]) (hg : CellsAt R 0 0 nibV) :
    Calls Tryd.prog 5 #[] w fun e w' => e = .returned (.bool true) ∧ Has E w' [R] := by
  refine c_enter (args := []) Tryd.func5 rfl Tryd.ntmps5 (by simp) ?_
  refine wp_seq_k fun K1 hK1 => ?_
  refine c_region ?_
  refine s_op (o_assign (v := (.bool false)) rfl ?_)
  refine s_nil ?_
  refine t_norm (hK1 _ _ ?_)
  refine wp_seq_k fun K2 hK2 => ?_
  refine c_region ?_
  refine s_op (o_callf (vs := #[(.pointer none), (.int .i64 2)]) ca8 rfl (args2 rfl rfl) (new_nil hH.all (n := 2) (by decide)) ?_)
  rintro _ w9 ⟨db3, pb4, sg5, rfl, hd6, hX7⟩
  refine ⟨_, rfl, ?_⟩
  have hH8 : Has E w9 [sg5, [Hp.one pb4 (.cells #[(.bool (Pw.mk false false 0 0).off), (.bool (Pw.mk false false 0 0).armed), (.int .i64 (Pw.mk false false 0 0).left), (.int .i64 (Pw.mk false false 0 0).uses)] 50 (0, 0))], R] := hX7.of_all2
  refine s_op (o_assign (v := (.pointer (some ⟨db3, 0, none⟩))) rfl ?_)
  refine s_nil ?_
  refine t_norm (hK2 _ _ ?_)
  refine wp_seq_k fun K10 hK10 => ?_
  refine c_region ?_
  refine s_op (o_move (v := (.pointer (some ⟨db3, 0, none⟩))) rfl ?_)
  refine s_op (o_sight (v := (.agg #[(.int .i64 0), (.int .i64 0), (.int .i64 0), (.int .i64 0), (.int .i64 0)])) (fun _ => by kernel_rfl) ?_)
  refine s_op (o_callf (vs := #[(.pointer (some ⟨db3, 0, none⟩)), (.int .i64 0), (.agg #[(.int .i64 0), (.int .i64 0), (.int .i64 0), (.int .i64 0), (.int .i64 0)])]) ca7 rfl (args3 rfl rfl rfl) (hsave_ok (p := (Pw.mk false false 0 0)) (la := (List.replicate 2 blankS)) ((hH8.front 1 rfl).front 1 rfl).all2 hd6 (hg.mono (seg_sub 0 rfl)) (by unfold PwOk; decide +kernel) (by unfold PwOk; decide +kernel) (by decide +kernel) (x := 0) (h := (Hd.mk 0 0 0 0 0)) (by decide +kernel) (by decide +kernel) (by decide +kernel)) ?_)
  rintro _ w15 ⟨sg11, rfl, hd12, hX13⟩
  refine ⟨_, rfl, ?_⟩
  have hH14 : Has E w15 [sg11, [Hp.one pb4 (.cells #[(.bool (useS (useS (Pw.mk false false 0 0))).off), (.bool (useS (useS (Pw.mk false false 0 0))).armed), (.int .i64 (useS (useS (Pw.mk false false 0 0))).left), (.int .i64 (useS (useS (Pw.mk false false 0 0))).uses)] 50 (0, 0))], R] := hX13.of_all2
  refine s_op (o_move (v := (.tuple #[(.agg #[(.int .i64 (hdUp (Hd.mk 0 0 0 0 0)).seq), (.int .i64 (hdUp (Hd.mk 0 0 0 0 0)).ep), (.int .i64 (hdUp (Hd.mk 0 0 0 0 0)).cut), (.int .i64 (hdUp (Hd.mk 0 0 0 0 0)).st), (.int .i64 (hdUp (Hd.mk 0 0 0 0 0)).mrk)]), (.int .i64 (0 : Int))])) rfl ?_)
  refine s_op (o_extract (v := (.agg #[(.int .i64 (hdUp (Hd.mk 0 0 0 0 0)).seq), (.int .i64 (hdUp (Hd.mk 0 0 0 0 0)).ep), (.int .i64 (hdUp (Hd.mk 0 0 0 0 0)).cut), (.int .i64 (hdUp (Hd.mk 0 0 0 0 0)).st), (.int .i64 (hdUp (Hd.mk 0 0 0 0 0)).mrk)])) rfl rfl ?_)
  refine s_op (o_extract (v := (.int .i64 (0 : Int))) rfl rfl ?_)
  refine s_op (o_alloc (cs := #[(.int .i64 0), (.int .i64 0), (.int .i64 0), (.int .i64 0), (.int .i64 0)]) ti25 rfl hH14 fun b16 w17 hH18 => ?_)
  refine s_eff (o_storeN (vs := [(.int .i64 (hdUp (Hd.mk 0 0 0 0 0)).seq), (.int .i64 (hdUp (Hd.mk 0 0 0 0 0)).ep), (.int .i64 (hdUp (Hd.mk 0 0 0 0 0)).cut), (.int .i64 (hdUp (Hd.mk 0 0 0 0 0)).st), (.int .i64 (hdUp (Hd.mk 0 0 0 0 0)).mrk)]) (c' := #[(.int .i64 (hdUp (Hd.mk 0 0 0 0 0)).seq), (.int .i64 (hdUp (Hd.mk 0 0 0 0 0)).ep), (.int .i64 (hdUp (Hd.mk 0 0 0 0 0)).cut), (.int .i64 (hdUp (Hd.mk 0 0 0 0 0)).st), (.int .i64 (hdUp (Hd.mk 0 0 0 0 0)).mrk)]) ti25 rfl rfl rfl rfl (by intro u hu; simp only [List.mem_cons, List.not_mem_nil, or_false] at hu; rcases hu with rfl | rfl | rfl | rfl | rfl <;> first | rfl) (by simp) (by kernel_rfl) (hH18.front 0 rfl) fun w19 hH20 => ?_)
  refine s_op (o_assign (v := (.int .i64 (0 : Int))) rfl ?_)
  refine s_nil ?_
  refine t_norm (hK10 _ _ ?_)
  refine wp_seq_k fun K21 hK21 => ?_
  refine c_region ?_
  refine s_op (o_move (v := (.pointer (some ⟨db3, 0, none⟩))) rfl ?_)
  refine s_op (o_callf (vs := #[(.pointer (some ⟨db3, 0, none⟩)), (.int .i64 1)]) ca13 rfl (args2 rfl rfl) (read_d (p := (useS (useS (Pw.mk false false 0 0)))) (la := ((List.replicate 2 blankS).set (svN 0 (Hd.mk 0 0 0 0 0)).toNat (hdL (hdUp (Hd.mk 0 0 0 0 0))))) (lo := ([] : List (Int × Bs))) ((hH20.front 2 rfl).front 2 rfl).all2 hd12 1) ?_)
  rintro _ w24 ⟨rfl, hX22⟩
  refine ⟨_, rfl, ?_⟩
  have hH23 : Has E w24 [sg11, [Hp.one pb4 (.cells #[(.bool (useS (useS (Pw.mk false false 0 0))).off), (.bool (useS (useS (Pw.mk false false 0 0))).armed), (.int .i64 (useS (useS (Pw.mk false false 0 0))).left), (.int .i64 (useS (useS (Pw.mk false false 0 0))).uses)] 50 (0, 0))], [Hp.one b16 (.cells #[(.int .i64 (hdUp (Hd.mk 0 0 0 0 0)).seq), (.int .i64 (hdUp (Hd.mk 0 0 0 0 0)).ep), (.int .i64 (hdUp (Hd.mk 0 0 0 0 0)).cut), (.int .i64 (hdUp (Hd.mk 0 0 0 0 0)).st), (.int .i64 (hdUp (Hd.mk 0 0 0 0 0)).mrk)] 25 (0, 0))], R] := hX22.of_all2
  refine s_op (o_move (v := (.tuple #[(S (readS (useS (useS (Pw.mk false false 0 0))) ((List.replicate 2 blankS).set (svN 0 (Hd.mk 0 0 0 0 0)).toNat (hdL (hdUp (Hd.mk 0 0 0 0 0)))) ([] : List (Int × Bs)) 1)), (.int .i64 (readE (useS (useS (Pw.mk false false 0 0))) ((List.replicate 2 blankS).set (svN 0 (Hd.mk 0 0 0 0 0)).toNat (hdL (hdUp (Hd.mk 0 0 0 0 0)))) 1))])) rfl ?_)
  refine s_op (o_extract (v := (S (readS (useS (useS (Pw.mk false false 0 0))) ((List.replicate 2 blankS).set (svN 0 (Hd.mk 0 0 0 0 0)).toNat (hdL (hdUp (Hd.mk 0 0 0 0 0)))) ([] : List (Int × Bs)) 1))) rfl rfl ?_)
  refine s_op (o_extract (v := (.int .i64 (readE (useS (useS (Pw.mk false false 0 0))) ((List.replicate 2 blankS).set (svN 0 (Hd.mk 0 0 0 0 0)).toNat (hdL (hdUp (Hd.mk 0 0 0 0 0)))) 1))) rfl rfl ?_)
  refine s_op (o_assign (v := (S (readS (useS (useS (Pw.mk false false 0 0))) ((List.replicate 2 blankS).set (svN 0 (Hd.mk 0 0 0 0 0)).toNat (hdL (hdUp (Hd.mk 0 0 0 0 0)))) ([] : List (Int × Bs)) 1))) rfl ?_)
  refine s_op (o_assign (v := (.int .i64 (readE (useS (useS (Pw.mk false false 0 0))) ((List.replicate 2 blankS).set (svN 0 (Hd.mk 0 0 0 0 0)).toNat (hdL (hdUp (Hd.mk 0 0 0 0 0)))) 1))) rfl ?_)
  refine s_nil ?_
  refine t_norm (hK21 _ _ ?_)
  refine wp_seq_k fun K25 hK25 => ?_
  refine c_region ?_
  refine s_op (o_move (v := (.pointer (some ⟨db3, 0, none⟩))) rfl ?_)
  refine s_op (o_callf (vs := #[(.pointer (some ⟨db3, 0, none⟩)), (.int .i64 0)]) ca6 rfl (args2 rfl rfl) (hload_c (p := (useS (useS (Pw.mk false false 0 0)))) (la := ((List.replicate 2 blankS).set (svN 0 (Hd.mk 0 0 0 0 0)).toNat (hdL (hdUp (Hd.mk 0 0 0 0 0))))) ((hH23.front 1 rfl).front 1 rfl).all2 hd12 (hg.mono (seg_sub 1 rfl)) (by unfold Full64; decide +kernel) (by decide +kernel) 0) ?_)
  rintro _ w28 ⟨rfl, hX26⟩
  refine ⟨_, rfl, ?_⟩
  have hH27 : Has E w28 [sg11, [Hp.one pb4 (.cells #[(.bool (useS (useS (Pw.mk false false 0 0))).off), (.bool (useS (useS (Pw.mk false false 0 0))).armed), (.int .i64 (useS (useS (Pw.mk false false 0 0))).left), (.int .i64 (useS (useS (Pw.mk false false 0 0))).uses)] 50 (0, 0))], [Hp.one b16 (.cells #[(.int .i64 (hdUp (Hd.mk 0 0 0 0 0)).seq), (.int .i64 (hdUp (Hd.mk 0 0 0 0 0)).ep), (.int .i64 (hdUp (Hd.mk 0 0 0 0 0)).cut), (.int .i64 (hdUp (Hd.mk 0 0 0 0 0)).st), (.int .i64 (hdUp (Hd.mk 0 0 0 0 0)).mrk)] 25 (0, 0))], R] := hX26.of_all2
  refine s_op (o_move (v := (.tuple #[(.agg #[(.int .i64 (ldH (useS (useS (Pw.mk false false 0 0))) ((List.replicate 2 blankS).set (svN 0 (Hd.mk 0 0 0 0 0)).toNat (hdL (hdUp (Hd.mk 0 0 0 0 0)))) 0).seq), (.int .i64 (ldH (useS (useS (Pw.mk false false 0 0))) ((List.replicate 2 blankS).set (svN 0 (Hd.mk 0 0 0 0 0)).toNat (hdL (hdUp (Hd.mk 0 0 0 0 0)))) 0).ep), (.int .i64 (ldH (useS (useS (Pw.mk false false 0 0))) ((List.replicate 2 blankS).set (svN 0 (Hd.mk 0 0 0 0 0)).toNat (hdL (hdUp (Hd.mk 0 0 0 0 0)))) 0).cut), (.int .i64 (ldH (useS (useS (Pw.mk false false 0 0))) ((List.replicate 2 blankS).set (svN 0 (Hd.mk 0 0 0 0 0)).toNat (hdL (hdUp (Hd.mk 0 0 0 0 0)))) 0).st), (.int .i64 (ldH (useS (useS (Pw.mk false false 0 0))) ((List.replicate 2 blankS).set (svN 0 (Hd.mk 0 0 0 0 0)).toNat (hdL (hdUp (Hd.mk 0 0 0 0 0)))) 0).mrk)]), (.int .i64 (ldE (useS (useS (Pw.mk false false 0 0))) ((List.replicate 2 blankS).set (svN 0 (Hd.mk 0 0 0 0 0)).toNat (hdL (hdUp (Hd.mk 0 0 0 0 0)))) 0))])) rfl ?_)
  refine s_op (o_extract (v := (.agg #[(.int .i64 (ldH (useS (useS (Pw.mk false false 0 0))) ((List.replicate 2 blankS).set (svN 0 (Hd.mk 0 0 0 0 0)).toNat (hdL (hdUp (Hd.mk 0 0 0 0 0)))) 0).seq), (.int .i64 (ldH (useS (useS (Pw.mk false false 0 0))) ((List.replicate 2 blankS).set (svN 0 (Hd.mk 0 0 0 0 0)).toNat (hdL (hdUp (Hd.mk 0 0 0 0 0)))) 0).ep), (.int .i64 (ldH (useS (useS (Pw.mk false false 0 0))) ((List.replicate 2 blankS).set (svN 0 (Hd.mk 0 0 0 0 0)).toNat (hdL (hdUp (Hd.mk 0 0 0 0 0)))) 0).cut), (.int .i64 (ldH (useS (useS (Pw.mk false false 0 0))) ((List.replicate 2 blankS).set (svN 0 (Hd.mk 0 0 0 0 0)).toNat (hdL (hdUp (Hd.mk 0 0 0 0 0)))) 0).st), (.int .i64 (ldH (useS (useS (Pw.mk false false 0 0))) ((List.replicate 2 blankS).set (svN 0 (Hd.mk 0 0 0 0 0)).toNat (hdL (hdUp (Hd.mk 0 0 0 0 0)))) 0).mrk)])) rfl rfl ?_)
  refine s_op (o_extract (v := (.int .i64 (ldE (useS (useS (Pw.mk false false 0 0))) ((List.replicate 2 blankS).set (svN 0 (Hd.mk 0 0 0 0 0)).toNat (hdL (hdUp (Hd.mk 0 0 0 0 0)))) 0))) rfl rfl ?_)
  refine s_op (o_alloc (cs := #[(.int .i64 0), (.int .i64 0), (.int .i64 0), (.int .i64 0), (.int .i64 0)]) ti25 rfl hH27 fun b29 w30 hH31 => ?_)
  refine s_eff (o_storeN (vs := [(.int .i64 (ldH (useS (useS (Pw.mk false false 0 0))) ((List.replicate 2 blankS).set (svN 0 (Hd.mk 0 0 0 0 0)).toNat (hdL (hdUp (Hd.mk 0 0 0 0 0)))) 0).seq), (.int .i64 (ldH (useS (useS (Pw.mk false false 0 0))) ((List.replicate 2 blankS).set (svN 0 (Hd.mk 0 0 0 0 0)).toNat (hdL (hdUp (Hd.mk 0 0 0 0 0)))) 0).ep), (.int .i64 (ldH (useS (useS (Pw.mk false false 0 0))) ((List.replicate 2 blankS).set (svN 0 (Hd.mk 0 0 0 0 0)).toNat (hdL (hdUp (Hd.mk 0 0 0 0 0)))) 0).cut), (.int .i64 (ldH (useS (useS (Pw.mk false false 0 0))) ((List.replicate 2 blankS).set (svN 0 (Hd.mk 0 0 0 0 0)).toNat (hdL (hdUp (Hd.mk 0 0 0 0 0)))) 0).st), (.int .i64 (ldH (useS (useS (Pw.mk false false 0 0))) ((List.replicate 2 blankS).set (svN 0 (Hd.mk 0 0 0 0 0)).toNat (hdL (hdUp (Hd.mk 0 0 0 0 0)))) 0).mrk)]) (c' := #[(.int .i64 (ldH (useS (useS (Pw.mk false false 0 0))) ((List.replicate 2 blankS).set (svN 0 (Hd.mk 0 0 0 0 0)).toNat (hdL (hdUp (Hd.mk 0 0 0 0 0)))) 0).seq), (.int .i64 (ldH (useS (useS (Pw.mk false false 0 0))) ((List.replicate 2 blankS).set (svN 0 (Hd.mk 0 0 0 0 0)).toNat (hdL (hdUp (Hd.mk 0 0 0 0 0)))) 0).ep), (.int .i64 (ldH (useS (useS (Pw.mk false false 0 0))) ((List.replicate 2 blankS).set (svN 0 (Hd.mk 0 0 0 0 0)).toNat (hdL (hdUp (Hd.mk 0 0 0 0 0)))) 0).cut), (.int .i64 (ldH (useS (useS (Pw.mk false false 0 0))) ((List.replicate 2 blankS).set (svN 0 (Hd.mk 0 0 0 0 0)).toNat (hdL (hdUp (Hd.mk 0 0 0 0 0)))) 0).st), (.int .i64 (ldH (useS (useS (Pw.mk false false 0 0))) ((List.replicate 2 blankS).set (svN 0 (Hd.mk 0 0 0 0 0)).toNat (hdL (hdUp (Hd.mk 0 0 0 0 0)))) 0).mrk)]) ti25 rfl rfl rfl rfl (by intro u hu; simp only [List.mem_cons, List.not_mem_nil, or_false] at hu; rcases hu with rfl | rfl | rfl | rfl | rfl <;> first | rfl) (by simp) (by kernel_rfl) (hH31.front 0 rfl) fun w32 hH33 => ?_)
  refine s_op (o_assign (v := (.int .i64 (ldE (useS (useS (Pw.mk false false 0 0))) ((List.replicate 2 blankS).set (svN 0 (Hd.mk 0 0 0 0 0)).toNat (hdL (hdUp (Hd.mk 0 0 0 0 0)))) 0))) rfl ?_)
  refine s_nil ?_
  refine t_norm (hK25 _ _ ?_)
  refine wp_seq_k fun K34 hK34 => ?_
  refine c_region ?_
  refine s_op (o_move (v := (.int .i64 (0 : Int))) rfl ?_)
  refine s_op (o_eql (a := (0 : Int)) (b := 0) rfl rfl ?_)
  refine s_op (o_move (v := (.bool (decide ((0 : Int) = 0)))) rfl ?_)
  by_cases h35 : (0 : Int) = 0
  · -- (0 : Int) = 0
    refine s_on 27 rfl (congrArg Value.bool (decide_eq_true h35)) (o_fieldAddr (k := 0) (fun _ => by kernel_rfl) rfl ?_)
    refine s_on 27 rfl (congrArg Value.bool (decide_eq_true h35)) (o_load1 (v := (.int .i64 (hdUp (Hd.mk 0 0 0 0 0)).seq)) Tryd.underlying3 rfl rfl hH33 (seg_sub 3 rfl) (CellsAt.one rfl) ?_)
    refine s_on 27 rfl (congrArg Value.bool (decide_eq_true h35)) (o_eql (a := (hdUp (Hd.mk 0 0 0 0 0)).seq) (b := 1) rfl rfl ?_)
    refine s_op (o_pick_t (u := (.bool (decide ((hdUp (Hd.mk 0 0 0 0 0)).seq = 1)))) ((rfl : _ = _).trans (congrArg Value.bool (decide_eq_true h35))) rfl ?_)
    refine s_op (o_move (v := (.bool (decide ((hdUp (Hd.mk 0 0 0 0 0)).seq = 1)))) rfl ?_)
    by_cases h36 : (hdUp (Hd.mk 0 0 0 0 0)).seq = 1
    · -- (hdUp (Hd.mk 0 0 0 0 0)).seq = 1
      refine s_on 32 rfl (congrArg Value.bool (decide_eq_true h36)) (o_move (v := (.int .i64 (readE (useS (useS (Pw.mk false false 0 0))) ((List.replicate 2 blankS).set (svN 0 (Hd.mk 0 0 0 0 0)).toNat (hdL (hdUp (Hd.mk 0 0 0 0 0)))) 1))) rfl ?_)
      refine s_on 32 rfl (congrArg Value.bool (decide_eq_true h36)) (o_eql (a := readE (useS (useS (Pw.mk false false 0 0))) ((List.replicate 2 blankS).set (svN 0 (Hd.mk 0 0 0 0 0)).toNat (hdL (hdUp (Hd.mk 0 0 0 0 0)))) 1) (b := 0) rfl rfl ?_)
      refine s_op (o_pick_t (u := (.bool (decide (readE (useS (useS (Pw.mk false false 0 0))) ((List.replicate 2 blankS).set (svN 0 (Hd.mk 0 0 0 0 0)).toNat (hdL (hdUp (Hd.mk 0 0 0 0 0)))) 1 = 0)))) ((rfl : _ = _).trans (congrArg Value.bool (decide_eq_true h36))) rfl ?_)
      refine s_op (o_move (v := (.bool (decide (readE (useS (useS (Pw.mk false false 0 0))) ((List.replicate 2 blankS).set (svN 0 (Hd.mk 0 0 0 0 0)).toNat (hdL (hdUp (Hd.mk 0 0 0 0 0)))) 1 = 0)))) rfl ?_)
      by_cases h37 : readE (useS (useS (Pw.mk false false 0 0))) ((List.replicate 2 blankS).set (svN 0 (Hd.mk 0 0 0 0 0)).toNat (hdL (hdUp (Hd.mk 0 0 0 0 0)))) 1 = 0
      · -- readE (useS (useS (Pw.mk false false 0 0))) ((List.replicate 2 blankS).set (svN 0 (Hd.mk 0 0 0 0 0)).toNat (hdL (hdUp (Hd.mk 0 0 0 0 0)))) 1 = 0
        refine s_on 36 rfl (congrArg Value.bool (decide_eq_true h37)) (o_move (v := (S (readS (useS (useS (Pw.mk false false 0 0))) ((List.replicate 2 blankS).set (svN 0 (Hd.mk 0 0 0 0 0)).toNat (hdL (hdUp (Hd.mk 0 0 0 0 0)))) ([] : List (Int × Bs)) 1))) rfl ?_)
        refine s_on 36 rfl (congrArg Value.bool (decide_eq_true h37)) (o_loadN (cs := [(.int .i64 (hdUp (Hd.mk 0 0 0 0 0)).seq), (.int .i64 (hdUp (Hd.mk 0 0 0 0 0)).ep), (.int .i64 (hdUp (Hd.mk 0 0 0 0 0)).cut), (.int .i64 (hdUp (Hd.mk 0 0 0 0 0)).st), (.int .i64 (hdUp (Hd.mk 0 0 0 0 0)).mrk)]) Tryd.underlying25 rfl ti25 rfl hH33 (seg_sub 3 rfl) (CellsAt.one rfl) ?_)
        refine s_on 36 rfl (congrArg Value.bool (decide_eq_true h37)) (o_callf (vs := #[(.agg #[(.int .i64 (hdUp (Hd.mk 0 0 0 0 0)).seq), (.int .i64 (hdUp (Hd.mk 0 0 0 0 0)).ep), (.int .i64 (hdUp (Hd.mk 0 0 0 0 0)).cut), (.int .i64 (hdUp (Hd.mk 0 0 0 0 0)).st), (.int .i64 (hdUp (Hd.mk 0 0 0 0 0)).mrk)])]) ca14 rfl (args1 rfl) (hlaid_c (h := (hdUp (Hd.mk 0 0 0 0 0))) hH33.all (hg.mono (seg_sub 4 rfl))) ?_)
        rintro _ w40 ⟨rfl, hX38⟩
        refine ⟨_, rfl, ?_⟩
        have hH39 := hX38.of_all
        refine s_on 36 rfl (congrArg Value.bool (decide_eq_true h37)) (o_seql (a := (readS (useS (useS (Pw.mk false false 0 0))) ((List.replicate 2 blankS).set (svN 0 (Hd.mk 0 0 0 0 0)).toNat (hdL (hdUp (Hd.mk 0 0 0 0 0)))) ([] : List (Int × Bs)) 1)) (b := (hdL (hdUp (Hd.mk 0 0 0 0 0)))) rfl rfl ?_)
        refine s_op (o_pick_t (u := (.bool (decide ((readS (useS (useS (Pw.mk false false 0 0))) ((List.replicate 2 blankS).set (svN 0 (Hd.mk 0 0 0 0 0)).toNat (hdL (hdUp (Hd.mk 0 0 0 0 0)))) ([] : List (Int × Bs)) 1) = (hdL (hdUp (Hd.mk 0 0 0 0 0))))))) ((rfl : _ = _).trans (congrArg Value.bool (decide_eq_true h37))) rfl ?_)
        refine s_op (o_move (v := (.bool (decide ((readS (useS (useS (Pw.mk false false 0 0))) ((List.replicate 2 blankS).set (svN 0 (Hd.mk 0 0 0 0 0)).toNat (hdL (hdUp (Hd.mk 0 0 0 0 0)))) ([] : List (Int × Bs)) 1) = (hdL (hdUp (Hd.mk 0 0 0 0 0))))))) rfl ?_)
        by_cases h41 : (readS (useS (useS (Pw.mk false false 0 0))) ((List.replicate 2 blankS).set (svN 0 (Hd.mk 0 0 0 0 0)).toNat (hdL (hdUp (Hd.mk 0 0 0 0 0)))) ([] : List (Int × Bs)) 1) = (hdL (hdUp (Hd.mk 0 0 0 0 0)))
        · -- (readS (useS (useS (Pw.mk false false 0 0))) ((List.replicate 2 blankS).set (svN 0 (Hd.mk 0 0 0 0 0)).toNat (hdL (hdUp (Hd.mk 0 0 0 0 0)))) ([] : List (Int × Bs)) 1) = (hdL (hdUp (Hd.mk 0 0 0 0 0)))
          refine s_on 42 rfl (congrArg Value.bool (decide_eq_true h41)) (o_move (v := (S (readS (useS (useS (Pw.mk false false 0 0))) ((List.replicate 2 blankS).set (svN 0 (Hd.mk 0 0 0 0 0)).toNat (hdL (hdUp (Hd.mk 0 0 0 0 0)))) ([] : List (Int × Bs)) 1))) rfl ?_)
          refine s_on 42 rfl (congrArg Value.bool (decide_eq_true h41)) (o_slen Tryd.underlying9 rfl ?_)
          refine s_on 42 rfl (congrArg Value.bool (decide_eq_true h41)) (o_eql (a := ((readS (useS (useS (Pw.mk false false 0 0))) ((List.replicate 2 blankS).set (svN 0 (Hd.mk 0 0 0 0 0)).toNat (hdL (hdUp (Hd.mk 0 0 0 0 0)))) ([] : List (Int × Bs)) 1).length : Int)) (b := 64) rfl rfl ?_)
          refine s_op (o_pick_t (u := (.bool (decide (((readS (useS (useS (Pw.mk false false 0 0))) ((List.replicate 2 blankS).set (svN 0 (Hd.mk 0 0 0 0 0)).toNat (hdL (hdUp (Hd.mk 0 0 0 0 0)))) ([] : List (Int × Bs)) 1).length : Int) = 64)))) ((rfl : _ = _).trans (congrArg Value.bool (decide_eq_true h41))) rfl ?_)
          refine s_op (o_move (v := (.bool (decide (((readS (useS (useS (Pw.mk false false 0 0))) ((List.replicate 2 blankS).set (svN 0 (Hd.mk 0 0 0 0 0)).toNat (hdL (hdUp (Hd.mk 0 0 0 0 0)))) ([] : List (Int × Bs)) 1).length : Int) = 64)))) rfl ?_)
          by_cases h42 : ((readS (useS (useS (Pw.mk false false 0 0))) ((List.replicate 2 blankS).set (svN 0 (Hd.mk 0 0 0 0 0)).toNat (hdL (hdUp (Hd.mk 0 0 0 0 0)))) ([] : List (Int × Bs)) 1).length : Int) = 64
          · -- ((readS (useS (useS (Pw.mk false false 0 0))) ((List.replicate 2 blankS).set (svN 0 (Hd.mk 0 0 0 0 0)).toNat (hdL (hdUp (Hd.mk 0 0 0 0 0)))) ([] : List (Int × Bs)) 1).length : Int) = 64
            refine s_on 47 rfl (congrArg Value.bool (decide_eq_true h42)) (o_loadN (cs := [(.int .i64 (ldH (useS (useS (Pw.mk false false 0 0))) ((List.replicate 2 blankS).set (svN 0 (Hd.mk 0 0 0 0 0)).toNat (hdL (hdUp (Hd.mk 0 0 0 0 0)))) 0).seq), (.int .i64 (ldH (useS (useS (Pw.mk false false 0 0))) ((List.replicate 2 blankS).set (svN 0 (Hd.mk 0 0 0 0 0)).toNat (hdL (hdUp (Hd.mk 0 0 0 0 0)))) 0).ep), (.int .i64 (ldH (useS (useS (Pw.mk false false 0 0))) ((List.replicate 2 blankS).set (svN 0 (Hd.mk 0 0 0 0 0)).toNat (hdL (hdUp (Hd.mk 0 0 0 0 0)))) 0).cut), (.int .i64 (ldH (useS (useS (Pw.mk false false 0 0))) ((List.replicate 2 blankS).set (svN 0 (Hd.mk 0 0 0 0 0)).toNat (hdL (hdUp (Hd.mk 0 0 0 0 0)))) 0).st), (.int .i64 (ldH (useS (useS (Pw.mk false false 0 0))) ((List.replicate 2 blankS).set (svN 0 (Hd.mk 0 0 0 0 0)).toNat (hdL (hdUp (Hd.mk 0 0 0 0 0)))) 0).mrk)]) Tryd.underlying25 rfl ti25 rfl hH39 (seg_sub 0 rfl) (CellsAt.one rfl) ?_)
            refine s_on 47 rfl (congrArg Value.bool (decide_eq_true h42)) (o_loadN (cs := [(.int .i64 (hdUp (Hd.mk 0 0 0 0 0)).seq), (.int .i64 (hdUp (Hd.mk 0 0 0 0 0)).ep), (.int .i64 (hdUp (Hd.mk 0 0 0 0 0)).cut), (.int .i64 (hdUp (Hd.mk 0 0 0 0 0)).st), (.int .i64 (hdUp (Hd.mk 0 0 0 0 0)).mrk)]) Tryd.underlying25 rfl ti25 rfl hH39 (seg_sub 3 rfl) (CellsAt.one rfl) ?_)
            refine s_on 47 rfl (congrArg Value.bool (decide_eq_true h42)) (o_eql25 ((ldH (useS (useS (Pw.mk false false 0 0))) ((List.replicate 2 blankS).set (svN 0 (Hd.mk 0 0 0 0 0)).toNat (hdL (hdUp (Hd.mk 0 0 0 0 0)))) 0).seq) ((ldH (useS (useS (Pw.mk false false 0 0))) ((List.replicate 2 blankS).set (svN 0 (Hd.mk 0 0 0 0 0)).toNat (hdL (hdUp (Hd.mk 0 0 0 0 0)))) 0).ep) ((ldH (useS (useS (Pw.mk false false 0 0))) ((List.replicate 2 blankS).set (svN 0 (Hd.mk 0 0 0 0 0)).toNat (hdL (hdUp (Hd.mk 0 0 0 0 0)))) 0).cut) ((ldH (useS (useS (Pw.mk false false 0 0))) ((List.replicate 2 blankS).set (svN 0 (Hd.mk 0 0 0 0 0)).toNat (hdL (hdUp (Hd.mk 0 0 0 0 0)))) 0).st) ((ldH (useS (useS (Pw.mk false false 0 0))) ((List.replicate 2 blankS).set (svN 0 (Hd.mk 0 0 0 0 0)).toNat (hdL (hdUp (Hd.mk 0 0 0 0 0)))) 0).mrk) ((hdUp (Hd.mk 0 0 0 0 0)).seq) ((hdUp (Hd.mk 0 0 0 0 0)).ep) ((hdUp (Hd.mk 0 0 0 0 0)).cut) ((hdUp (Hd.mk 0 0 0 0 0)).st) ((hdUp (Hd.mk 0 0 0 0 0)).mrk) rfl rfl ?_)
            refine s_op (o_pick_t (u := (.bool (eqv25 ((ldH (useS (useS (Pw.mk false false 0 0))) ((List.replicate 2 blankS).set (svN 0 (Hd.mk 0 0 0 0 0)).toNat (hdL (hdUp (Hd.mk 0 0 0 0 0)))) 0).seq) ((ldH (useS (useS (Pw.mk false false 0 0))) ((List.replicate 2 blankS).set (svN 0 (Hd.mk 0 0 0 0 0)).toNat (hdL (hdUp (Hd.mk 0 0 0 0 0)))) 0).ep) ((ldH (useS (useS (Pw.mk false false 0 0))) ((List.replicate 2 blankS).set (svN 0 (Hd.mk 0 0 0 0 0)).toNat (hdL (hdUp (Hd.mk 0 0 0 0 0)))) 0).cut) ((ldH (useS (useS (Pw.mk false false 0 0))) ((List.replicate 2 blankS).set (svN 0 (Hd.mk 0 0 0 0 0)).toNat (hdL (hdUp (Hd.mk 0 0 0 0 0)))) 0).st) ((ldH (useS (useS (Pw.mk false false 0 0))) ((List.replicate 2 blankS).set (svN 0 (Hd.mk 0 0 0 0 0)).toNat (hdL (hdUp (Hd.mk 0 0 0 0 0)))) 0).mrk) ((hdUp (Hd.mk 0 0 0 0 0)).seq) ((hdUp (Hd.mk 0 0 0 0 0)).ep) ((hdUp (Hd.mk 0 0 0 0 0)).cut) ((hdUp (Hd.mk 0 0 0 0 0)).st) ((hdUp (Hd.mk 0 0 0 0 0)).mrk)))) ((rfl : _ = _).trans (congrArg Value.bool (decide_eq_true h42))) rfl ?_)
            refine s_op (o_move (v := (.bool (eqv25 ((ldH (useS (useS (Pw.mk false false 0 0))) ((List.replicate 2 blankS).set (svN 0 (Hd.mk 0 0 0 0 0)).toNat (hdL (hdUp (Hd.mk 0 0 0 0 0)))) 0).seq) ((ldH (useS (useS (Pw.mk false false 0 0))) ((List.replicate 2 blankS).set (svN 0 (Hd.mk 0 0 0 0 0)).toNat (hdL (hdUp (Hd.mk 0 0 0 0 0)))) 0).ep) ((ldH (useS (useS (Pw.mk false false 0 0))) ((List.replicate 2 blankS).set (svN 0 (Hd.mk 0 0 0 0 0)).toNat (hdL (hdUp (Hd.mk 0 0 0 0 0)))) 0).cut) ((ldH (useS (useS (Pw.mk false false 0 0))) ((List.replicate 2 blankS).set (svN 0 (Hd.mk 0 0 0 0 0)).toNat (hdL (hdUp (Hd.mk 0 0 0 0 0)))) 0).st) ((ldH (useS (useS (Pw.mk false false 0 0))) ((List.replicate 2 blankS).set (svN 0 (Hd.mk 0 0 0 0 0)).toNat (hdL (hdUp (Hd.mk 0 0 0 0 0)))) 0).mrk) ((hdUp (Hd.mk 0 0 0 0 0)).seq) ((hdUp (Hd.mk 0 0 0 0 0)).ep) ((hdUp (Hd.mk 0 0 0 0 0)).cut) ((hdUp (Hd.mk 0 0 0 0 0)).st) ((hdUp (Hd.mk 0 0 0 0 0)).mrk)))) rfl ?_)
            rcases Bool.eq_false_or_eq_true (eqv25 ((ldH (useS (useS (Pw.mk false false 0 0))) ((List.replicate 2 blankS).set (svN 0 (Hd.mk 0 0 0 0 0)).toNat (hdL (hdUp (Hd.mk 0 0 0 0 0)))) 0).seq) ((ldH (useS (useS (Pw.mk false false 0 0))) ((List.replicate 2 blankS).set (svN 0 (Hd.mk 0 0 0 0 0)).toNat (hdL (hdUp (Hd.mk 0 0 0 0 0)))) 0).ep) ((ldH (useS (useS (Pw.mk false false 0 0))) ((List.replicate 2 blankS).set (svN 0 (Hd.mk 0 0 0 0 0)).toNat (hdL (hdUp (Hd.mk 0 0 0 0 0)))) 0).cut) ((ldH (useS (useS (Pw.mk false false 0 0))) ((List.replicate 2 blankS).set (svN 0 (Hd.mk 0 0 0 0 0)).toNat (hdL (hdUp (Hd.mk 0 0 0 0 0)))) 0).st) ((ldH (useS (useS (Pw.mk false false 0 0))) ((List.replicate 2 blankS).set (svN 0 (Hd.mk 0 0 0 0 0)).toNat (hdL (hdUp (Hd.mk 0 0 0 0 0)))) 0).mrk) ((hdUp (Hd.mk 0 0 0 0 0)).seq) ((hdUp (Hd.mk 0 0 0 0 0)).ep) ((hdUp (Hd.mk 0 0 0 0 0)).cut) ((hdUp (Hd.mk 0 0 0 0 0)).st) ((hdUp (Hd.mk 0 0 0 0 0)).mrk)) with h43 | h43
            · -- eqv25 ((ldH (useS (useS (Pw.mk false false 0 0))) ((List.replicate 2 blankS).set (svN 0 (Hd.mk 0 0 0 0 0)).toNat (hdL (hdUp (Hd.mk 0 0 0 0 0)))) 0).seq) ((ldH (useS (useS (Pw.mk false false 0 0))) ((List.replicate 2 blankS).set (svN 0 (Hd.mk 0 0 0 0 0)).toNat (hdL (hdUp (Hd.mk 0 0 0 0 0)))) 0).ep) ((ldH (useS (useS (Pw.mk false false 0 0))) ((List.replicate 2 blankS).set (svN 0 (Hd.mk 0 0 0 0 0)).toNat (hdL (hdUp (Hd.mk 0 0 0 0 0)))) 0).cut) ((ldH (useS (useS (Pw.mk false false 0 0))) ((List.replicate 2 blankS).set (svN 0 (Hd.mk 0 0 0 0 0)).toNat (hdL (hdUp (Hd.mk 0 0 0 0 0)))) 0).st) ((ldH (useS (useS (Pw.mk false false 0 0))) ((List.replicate 2 blankS).set (svN 0 (Hd.mk 0 0 0 0 0)).toNat (hdL (hdUp (Hd.mk 0 0 0 0 0)))) 0).mrk) ((hdUp (Hd.mk 0 0 0 0 0)).seq) ((hdUp (Hd.mk 0 0 0 0 0)).ep) ((hdUp (Hd.mk 0 0 0 0 0)).cut) ((hdUp (Hd.mk 0 0 0 0 0)).st) ((hdUp (Hd.mk 0 0 0 0 0)).mrk)
              refine s_on 52 rfl (congrArg Value.bool h43) (o_move (v := (.int .i64 (ldE (useS (useS (Pw.mk false false 0 0))) ((List.replicate 2 blankS).set (svN 0 (Hd.mk 0 0 0 0 0)).toNat (hdL (hdUp (Hd.mk 0 0 0 0 0)))) 0))) rfl ?_)
              refine s_on 52 rfl (congrArg Value.bool h43) (o_eql (a := ldE (useS (useS (Pw.mk false false 0 0))) ((List.replicate 2 blankS).set (svN 0 (Hd.mk 0 0 0 0 0)).toNat (hdL (hdUp (Hd.mk 0 0 0 0 0)))) 0) (b := 0) rfl rfl ?_)
              refine s_op (o_pick_t (u := (.bool (decide (ldE (useS (useS (Pw.mk false false 0 0))) ((List.replicate 2 blankS).set (svN 0 (Hd.mk 0 0 0 0 0)).toNat (hdL (hdUp (Hd.mk 0 0 0 0 0)))) 0 = 0)))) ((rfl : _ = _).trans (congrArg Value.bool h43)) rfl ?_)
              refine s_op (o_assign (v := (.bool (decide (ldE (useS (useS (Pw.mk false false 0 0))) ((List.replicate 2 blankS).set (svN 0 (Hd.mk 0 0 0 0 0)).toNat (hdL (hdUp (Hd.mk 0 0 0 0 0)))) 0 = 0)))) rfl ?_)
              refine s_nil ?_
              refine t_norm (hK34 _ _ ?_)
              refine wp_ret ?_
              refine c_ret1 Tryd.results5  (v := (.bool (decide (ldE (useS (useS (Pw.mk false false 0 0))) ((List.replicate 2 blankS).set (svN 0 (Hd.mk 0 0 0 0 0)).toNat (hdL (hdUp (Hd.mk 0 0 0 0 0)))) 0 = 0)))) rfl ?_
              have hH44 : Has E w40 [R] := (hH39.front 4 rfl).first 1 rfl
              exact ⟨by rw [show decide (ldE (useS (useS (Pw.mk false false 0 0))) ((List.replicate 2 blankS).set (svN 0 (Hd.mk 0 0 0 0 0)).toNat (hdL (hdUp (Hd.mk 0 0 0 0 0)))) 0 = 0) = true by decide +kernel], hH44⟩
            · -- not: eqv25 ((ldH (useS (useS (Pw.mk false false 0 0))) ((List.replicate 2 blankS).set (svN 0 (Hd.mk 0 0 0 0 0)).toNat (hdL (hdUp (Hd.mk 0 0 0 0 0)))) 0).seq) ((ldH (useS (useS (Pw.mk false false 0 0))) ((List.replicate 2 blankS).set (svN 0 (Hd.mk 0 0 0 0 0)).toNat (hdL (hdUp (Hd.mk 0 0 0 0 0)))) 0).ep) ((ldH (useS (useS (Pw.mk false false 0 0))) ((List.replicate 2 blankS).set (svN 0 (Hd.mk 0 0 0 0 0)).toNat (hdL (hdUp (Hd.mk 0 0 0 0 0)))) 0).cut) ((ldH (useS (useS (Pw.mk false false 0 0))) ((List.replicate 2 blankS).set (svN 0 (Hd.mk 0 0 0 0 0)).toNat (hdL (hdUp (Hd.mk 0 0 0 0 0)))) 0).st) ((ldH (useS (useS (Pw.mk false false 0 0))) ((List.replicate 2 blankS).set (svN 0 (Hd.mk 0 0 0 0 0)).toNat (hdL (hdUp (Hd.mk 0 0 0 0 0)))) 0).mrk) ((hdUp (Hd.mk 0 0 0 0 0)).seq) ((hdUp (Hd.mk 0 0 0 0 0)).ep) ((hdUp (Hd.mk 0 0 0 0 0)).cut) ((hdUp (Hd.mk 0 0 0 0 0)).st) ((hdUp (Hd.mk 0 0 0 0 0)).mrk)
              exact absurd h43 (by decide +kernel)
          · -- not: ((readS (useS (useS (Pw.mk false false 0 0))) ((List.replicate 2 blankS).set (svN 0 (Hd.mk 0 0 0 0 0)).toNat (hdL (hdUp (Hd.mk 0 0 0 0 0)))) ([] : List (Int × Bs)) 1).length : Int) = 64
            exact absurd (by decide +kernel) h42
        · -- not: (readS (useS (useS (Pw.mk false false 0 0))) ((List.replicate 2 blankS).set (svN 0 (Hd.mk 0 0 0 0 0)).toNat (hdL (hdUp (Hd.mk 0 0 0 0 0)))) ([] : List (Int × Bs)) 1) = (hdL (hdUp (Hd.mk 0 0 0 0 0)))
          exact absurd (by decide +kernel) h41
      · -- not: readE (useS (useS (Pw.mk false false 0 0))) ((List.replicate 2 blankS).set (svN 0 (Hd.mk 0 0 0 0 0)).toNat (hdL (hdUp (Hd.mk 0 0 0 0 0)))) 1 = 0
        exact absurd (by decide +kernel) h37
    · -- not: (hdUp (Hd.mk 0 0 0 0 0)).seq = 1
      exact absurd (by decide +kernel) h36
  · -- not: (0 : Int) = 0
    exact absurd (by decide +kernel) h35
end Go.Q
namespace Go.Q
open Go.Proofs
set_option linter.unusedVariables false
set_option maxRecDepth 100000
attribute [local irreducible] wpList OK Code.wp
end Go.Q
namespace Go.Q
open Go.Proofs
set_option linter.unusedVariables false
set_option maxRecDepth 100000
attribute [local irreducible] wpList OK Code.wp
set_option maxHeartbeats 4000000 in
theorem small7_c {E w : World} {R : List Hp} {n : Int}  (hH : Has E w [R]) :
    Calls Tryd.prog 26 #[(.int .i64 n)] w fun e w' => e = .returned (.bool (decide (0 ≤ n ∧ n ≤ 4611686018427387903))) ∧ Has E w' [R] := by
  refine c_enter (args := [(.int .i64 n)]) Tryd.func26 rfl Tryd.ntmps26 (by simp) ?_
  refine wp_seq_k fun K1 hK1 => ?_
  refine c_region ?_
  refine s_op (o_assign (v := (.bool false)) rfl ?_)
  refine s_nil ?_
  refine t_norm (hK1 _ _ ?_)
  refine wp_seq_k fun K2 hK2 => ?_
  refine c_region ?_
  refine s_op (o_move (v := (.int .i64 n)) rfl ?_)
  refine s_op (o_geq (a := n) (b := 0) rfl rfl ?_)
  refine s_op (o_move (v := (.bool (decide (0 ≤ n)))) rfl ?_)
  by_cases h3 : 0 ≤ n
  · -- 0 ≤ n
    refine s_on 5 rfl (congrArg Value.bool (decide_eq_true h3)) (o_move (v := (.int .i64 n)) rfl ?_)
    refine s_on 5 rfl (congrArg Value.bool (decide_eq_true h3)) (o_lss (a := n) (b := 4611686018427387904) rfl rfl ?_)
    refine s_op (o_pick_t (u := (.bool (decide (n < 4611686018427387904)))) ((rfl : _ = _).trans (congrArg Value.bool (decide_eq_true h3))) rfl ?_)
    refine s_op (o_assign (v := (.bool (decide (n < 4611686018427387904)))) rfl ?_)
    refine s_nil ?_
    refine t_norm (hK2 _ _ ?_)
    refine wp_ret ?_
    refine c_ret1 Tryd.results26  (v := (.bool (decide (n < 4611686018427387904)))) rfl ?_
    have q4 : decide (0 ≤ n ∧ n ≤ 4611686018427387903) = decide (n < 4611686018427387904) := by first | (rw [decide_eq_decide]; omega) | (rw [decide_eq_false_iff_not]; omega)
    exact ⟨by rw [q4], hH⟩
  · -- not: 0 ≤ n
    refine s_off (b' := false) 5 rfl (congrArg Value.bool (decide_eq_false h3)) rfl ?_
    refine s_off (b' := false) 5 rfl (congrArg Value.bool (decide_eq_false h3)) rfl ?_
    refine s_op (o_pick_f (u := (.bool false)) ((rfl : _ = _).trans (congrArg Value.bool (decide_eq_false h3))) rfl ?_)
    refine s_op (o_assign (v := (.bool false)) rfl ?_)
    refine s_nil ?_
    refine t_norm (hK2 _ _ ?_)
    refine wp_ret ?_
    refine c_ret1 Tryd.results26  (v := (.bool false)) rfl ?_
    have q5 : decide (0 ≤ n ∧ n ≤ 4611686018427387903) = false := by first | (rw [decide_eq_decide]; omega) | (rw [decide_eq_false_iff_not]; omega)
    exact ⟨by rw [q5], hH⟩
set_option maxHeartbeats 4000000 in
theorem r7right_c {E w : World} {R : List Hp} {h : Hd}  (hH : Has E w [R]) :
    Calls Tryd.prog 11 #[(.agg #[(.int .i64 h.seq), (.int .i64 h.ep), (.int .i64 h.cut), (.int .i64 h.st), (.int .i64 h.mrk)])] w fun e w' => e = .returned (.bool (hdR h)) ∧ Has E w' [R] := by
  refine c_enter (args := [(.agg #[(.int .i64 h.seq), (.int .i64 h.ep), (.int .i64 h.cut), (.int .i64 h.st), (.int .i64 h.mrk)])]) Tryd.func11 rfl Tryd.ntmps11 (by simp) ?_
  refine wp_seq_k fun K1 hK1 => ?_
  refine c_region ?_
  refine s_op (o_box (cs := #[(.int .i64 h.seq), (.int .i64 h.ep), (.int .i64 h.cut), (.int .i64 h.st), (.int .i64 h.mrk)]) rfl rfl hH fun b2 w3 hH4 => ?_)
  refine s_op (o_assign (v := (.bool false)) rfl ?_)
  refine s_nil ?_
  refine t_norm (hK1 _ _ ?_)
  refine wp_seq_k fun K5 hK5 => ?_
  refine c_region ?_
  refine s_op (o_fieldAddr (k := 0) (fun _ => by kernel_rfl) rfl ?_)
  refine s_op (o_load1 (v := (.int .i64 h.seq)) Tryd.underlying3 rfl rfl hH4 (seg_sub 0 rfl) (CellsAt.one rfl) ?_)
  refine s_op (o_callf (vs := #[(.int .i64 h.seq)]) ca26 rfl (args1 rfl) (small7_c (n := h.seq) hH4.all ) ?_)
  rintro _ w8 ⟨rfl, hX6⟩
  refine ⟨_, rfl, ?_⟩
  have hH7 := hX6.of_all
  refine s_op (o_move (v := (.bool (decide (0 ≤ h.seq ∧ h.seq ≤ 4611686018427387903)))) rfl ?_)
  by_cases h9 : 0 ≤ h.seq ∧ h.seq ≤ 4611686018427387903
  · -- 0 ≤ h.seq ∧ h.seq ≤ 4611686018427387903
    refine s_on 6 rfl (congrArg Value.bool (decide_eq_true h9)) (o_fieldAddr (k := 1) (fun _ => by kernel_rfl) rfl ?_)
    refine s_on 6 rfl (congrArg Value.bool (decide_eq_true h9)) (o_load1 (v := (.int .i64 h.ep)) Tryd.underlying3 rfl rfl hH7 (seg_sub 0 rfl) (CellsAt.one rfl) ?_)
    refine s_on 6 rfl (congrArg Value.bool (decide_eq_true h9)) (o_geq (a := h.ep) (b := 0) rfl rfl ?_)
    refine s_op (o_pick_t (u := (.bool (decide (0 ≤ h.ep)))) ((rfl : _ = _).trans (congrArg Value.bool (decide_eq_true h9))) rfl ?_)
    refine s_op (o_move (v := (.bool (decide (0 ≤ h.ep)))) rfl ?_)
    by_cases h10 : 0 ≤ h.ep
    · -- 0 ≤ h.ep
      refine s_on 11 rfl (congrArg Value.bool (decide_eq_true h10)) (o_fieldAddr (k := 1) (fun _ => by kernel_rfl) rfl ?_)
      refine s_on 11 rfl (congrArg Value.bool (decide_eq_true h10)) (o_load1 (v := (.int .i64 h.ep)) Tryd.underlying3 rfl rfl hH7 (seg_sub 0 rfl) (CellsAt.one rfl) ?_)
      refine s_on 11 rfl (congrArg Value.bool (decide_eq_true h10)) (o_lss (a := h.ep) (b := 2147483648) rfl rfl ?_)
      refine s_op (o_pick_t (u := (.bool (decide (h.ep < 2147483648)))) ((rfl : _ = _).trans (congrArg Value.bool (decide_eq_true h10))) rfl ?_)
      refine s_op (o_move (v := (.bool (decide (h.ep < 2147483648)))) rfl ?_)
      by_cases h11 : h.ep < 2147483648
      · -- h.ep < 2147483648
        refine s_on 16 rfl (congrArg Value.bool (decide_eq_true h11)) (o_fieldAddr (k := 2) (fun _ => by kernel_rfl) rfl ?_)
        refine s_on 16 rfl (congrArg Value.bool (decide_eq_true h11)) (o_load1 (v := (.int .i64 h.cut)) Tryd.underlying3 rfl rfl hH7 (seg_sub 0 rfl) (CellsAt.one rfl) ?_)
        refine s_on 16 rfl (congrArg Value.bool (decide_eq_true h11)) (o_callf (vs := #[(.int .i64 h.cut)]) ca26 rfl (args1 rfl) (small7_c (n := h.cut) hH7.all ) ?_)
        rintro _ w14 ⟨rfl, hX12⟩
        refine ⟨_, rfl, ?_⟩
        have hH13 := hX12.of_all
        refine s_op (o_pick_t (u := (.bool (decide (0 ≤ h.cut ∧ h.cut ≤ 4611686018427387903)))) ((rfl : _ = _).trans (congrArg Value.bool (decide_eq_true h11))) rfl ?_)
        refine s_op (o_move (v := (.bool (decide (0 ≤ h.cut ∧ h.cut ≤ 4611686018427387903)))) rfl ?_)
        by_cases h15 : 0 ≤ h.cut ∧ h.cut ≤ 4611686018427387903
        · -- 0 ≤ h.cut ∧ h.cut ≤ 4611686018427387903
          refine s_on 21 rfl (congrArg Value.bool (decide_eq_true h15)) (o_fieldAddr (k := 3) (fun _ => by kernel_rfl) rfl ?_)
          refine s_on 21 rfl (congrArg Value.bool (decide_eq_true h15)) (o_load1 (v := (.int .i64 h.st)) Tryd.underlying3 rfl rfl hH13 (seg_sub 0 rfl) (CellsAt.one rfl) ?_)
          refine s_on 21 rfl (congrArg Value.bool (decide_eq_true h15)) (o_callf (vs := #[(.int .i64 h.st)]) ca26 rfl (args1 rfl) (small7_c (n := h.st) hH13.all ) ?_)
          rintro _ w18 ⟨rfl, hX16⟩
          refine ⟨_, rfl, ?_⟩
          have hH17 := hX16.of_all
          refine s_op (o_pick_t (u := (.bool (decide (0 ≤ h.st ∧ h.st ≤ 4611686018427387903)))) ((rfl : _ = _).trans (congrArg Value.bool (decide_eq_true h15))) rfl ?_)
          refine s_op (o_move (v := (.bool (decide (0 ≤ h.st ∧ h.st ≤ 4611686018427387903)))) rfl ?_)
          by_cases h19 : 0 ≤ h.st ∧ h.st ≤ 4611686018427387903
          · -- 0 ≤ h.st ∧ h.st ≤ 4611686018427387903
            refine s_on 26 rfl (congrArg Value.bool (decide_eq_true h19)) (o_fieldAddr (k := 4) (fun _ => by kernel_rfl) rfl ?_)
            refine s_on 26 rfl (congrArg Value.bool (decide_eq_true h19)) (o_load1 (v := (.int .i64 h.mrk)) Tryd.underlying3 rfl rfl hH17 (seg_sub 0 rfl) (CellsAt.one rfl) ?_)
            refine s_on 26 rfl (congrArg Value.bool (decide_eq_true h19)) (o_callf (vs := #[(.int .i64 h.mrk)]) ca26 rfl (args1 rfl) (small7_c (n := h.mrk) hH17.all ) ?_)
            rintro _ w22 ⟨rfl, hX20⟩
            refine ⟨_, rfl, ?_⟩
            have hH21 := hX20.of_all
            refine s_op (o_pick_t (u := (.bool (decide (0 ≤ h.mrk ∧ h.mrk ≤ 4611686018427387903)))) ((rfl : _ = _).trans (congrArg Value.bool (decide_eq_true h19))) rfl ?_)
            refine s_op (o_assign (v := (.bool (decide (0 ≤ h.mrk ∧ h.mrk ≤ 4611686018427387903)))) rfl ?_)
            refine s_nil ?_
            refine t_norm (hK5 _ _ ?_)
            refine wp_ret ?_
            refine c_ret1 Tryd.results11  (v := (.bool (decide (0 ≤ h.mrk ∧ h.mrk ≤ 4611686018427387903)))) rfl ?_
            have q23 : (hdR h) = decide (0 ≤ h.mrk ∧ h.mrk ≤ 4611686018427387903) := by unfold hdR; first | (rw [decide_eq_decide]; omega) | (rw [decide_eq_false_iff_not]; omega)
            have hH24 : Has E w22 [R] := (hH21.front 1 rfl).first 1 rfl
            exact ⟨by rw [q23], hH24⟩
          · -- not: 0 ≤ h.st ∧ h.st ≤ 4611686018427387903
            refine s_off (b' := false) 26 rfl (congrArg Value.bool (decide_eq_false h19)) rfl ?_
            refine s_off (b' := false) 26 rfl (congrArg Value.bool (decide_eq_false h19)) rfl ?_
            refine s_off (b' := false) 26 rfl (congrArg Value.bool (decide_eq_false h19)) rfl ?_
            refine s_op (o_pick_f (u := (.bool false)) ((rfl : _ = _).trans (congrArg Value.bool (decide_eq_false h19))) rfl ?_)
            refine s_op (o_assign (v := (.bool false)) rfl ?_)
            refine s_nil ?_
            refine t_norm (hK5 _ _ ?_)
            refine wp_ret ?_
            refine c_ret1 Tryd.results11  (v := (.bool false)) rfl ?_
            have q25 : (hdR h) = false := by unfold hdR; first | (rw [decide_eq_decide]; omega) | (rw [decide_eq_false_iff_not]; omega)
            have hH26 : Has E w18 [R] := (hH17.front 1 rfl).first 1 rfl
            exact ⟨by rw [q25], hH26⟩
        · -- not: 0 ≤ h.cut ∧ h.cut ≤ 4611686018427387903
          refine s_off (b' := false) 21 rfl (congrArg Value.bool (decide_eq_false h15)) rfl ?_
          refine s_off (b' := false) 21 rfl (congrArg Value.bool (decide_eq_false h15)) rfl ?_
          refine s_off (b' := false) 21 rfl (congrArg Value.bool (decide_eq_false h15)) rfl ?_
          refine s_op (o_pick_f (u := (.bool false)) ((rfl : _ = _).trans (congrArg Value.bool (decide_eq_false h15))) rfl ?_)
          refine s_op (o_move (v := (.bool false)) rfl ?_)
          refine s_off (b' := false) 26 rfl rfl rfl ?_
          refine s_off (b' := false) 26 rfl rfl rfl ?_
          refine s_off (b' := false) 26 rfl rfl rfl ?_
          refine s_op (o_pick_f (u := (.bool false)) rfl rfl ?_)
          refine s_op (o_assign (v := (.bool false)) rfl ?_)
          refine s_nil ?_
          refine t_norm (hK5 _ _ ?_)
          refine wp_ret ?_
          refine c_ret1 Tryd.results11  (v := (.bool false)) rfl ?_
          have q27 : (hdR h) = false := by unfold hdR; first | (rw [decide_eq_decide]; omega) | (rw [decide_eq_false_iff_not]; omega)
          have hH28 : Has E w14 [R] := (hH13.front 1 rfl).first 1 rfl
          exact ⟨by rw [q27], hH28⟩
      · -- not: h.ep < 2147483648
        refine s_off (b' := false) 16 rfl (congrArg Value.bool (decide_eq_false h11)) rfl ?_
        refine s_off (b' := false) 16 rfl (congrArg Value.bool (decide_eq_false h11)) rfl ?_
        refine s_off (b' := false) 16 rfl (congrArg Value.bool (decide_eq_false h11)) rfl ?_
        refine s_op (o_pick_f (u := (.bool false)) ((rfl : _ = _).trans (congrArg Value.bool (decide_eq_false h11))) rfl ?_)
        refine s_op (o_move (v := (.bool false)) rfl ?_)
        refine s_off (b' := false) 21 rfl rfl rfl ?_
        refine s_off (b' := false) 21 rfl rfl rfl ?_
        refine s_off (b' := false) 21 rfl rfl rfl ?_
        refine s_op (o_pick_f (u := (.bool false)) rfl rfl ?_)
        refine s_op (o_move (v := (.bool false)) rfl ?_)
        refine s_off (b' := false) 26 rfl rfl rfl ?_
        refine s_off (b' := false) 26 rfl rfl rfl ?_
        refine s_off (b' := false) 26 rfl rfl rfl ?_
        refine s_op (o_pick_f (u := (.bool false)) rfl rfl ?_)
        refine s_op (o_assign (v := (.bool false)) rfl ?_)
        refine s_nil ?_
        refine t_norm (hK5 _ _ ?_)
        refine wp_ret ?_
        refine c_ret1 Tryd.results11  (v := (.bool false)) rfl ?_
        have q29 : (hdR h) = false := by unfold hdR; first | (rw [decide_eq_decide]; omega) | (rw [decide_eq_false_iff_not]; omega)
        have hH30 : Has E w8 [R] := (hH7.front 1 rfl).first 1 rfl
        exact ⟨by rw [q29], hH30⟩
    · -- not: 0 ≤ h.ep
      refine s_off (b' := false) 11 rfl (congrArg Value.bool (decide_eq_false h10)) rfl ?_
      refine s_off (b' := false) 11 rfl (congrArg Value.bool (decide_eq_false h10)) rfl ?_
      refine s_off (b' := false) 11 rfl (congrArg Value.bool (decide_eq_false h10)) rfl ?_
      refine s_op (o_pick_f (u := (.bool false)) ((rfl : _ = _).trans (congrArg Value.bool (decide_eq_false h10))) rfl ?_)
      refine s_op (o_move (v := (.bool false)) rfl ?_)
      refine s_off (b' := false) 16 rfl rfl rfl ?_
      refine s_off (b' := false) 16 rfl rfl rfl ?_
      refine s_off (b' := false) 16 rfl rfl rfl ?_
      refine s_op (o_pick_f (u := (.bool false)) rfl rfl ?_)
      refine s_op (o_move (v := (.bool false)) rfl ?_)
      refine s_off (b' := false) 21 rfl rfl rfl ?_
      refine s_off (b' := false) 21 rfl rfl rfl ?_
      refine s_off (b' := false) 21 rfl rfl rfl ?_
      refine s_op (o_pick_f (u := (.bool false)) rfl rfl ?_)
      refine s_op (o_move (v := (.bool false)) rfl ?_)
      refine s_off (b' := false) 26 rfl rfl rfl ?_
      refine s_off (b' := false) 26 rfl rfl rfl ?_
      refine s_off (b' := false) 26 rfl rfl rfl ?_
      refine s_op (o_pick_f (u := (.bool false)) rfl rfl ?_)
      refine s_op (o_assign (v := (.bool false)) rfl ?_)
      refine s_nil ?_
      refine t_norm (hK5 _ _ ?_)
      refine wp_ret ?_
      refine c_ret1 Tryd.results11  (v := (.bool false)) rfl ?_
      have q31 : (hdR h) = false := by unfold hdR; first | (rw [decide_eq_decide]; omega) | (rw [decide_eq_false_iff_not]; omega)
      have hH32 : Has E w8 [R] := (hH7.front 1 rfl).first 1 rfl
      exact ⟨by rw [q31], hH32⟩
  · -- not: 0 ≤ h.seq ∧ h.seq ≤ 4611686018427387903
    refine s_off (b' := false) 6 rfl (congrArg Value.bool (decide_eq_false h9)) rfl ?_
    refine s_off (b' := false) 6 rfl (congrArg Value.bool (decide_eq_false h9)) rfl ?_
    refine s_off (b' := false) 6 rfl (congrArg Value.bool (decide_eq_false h9)) rfl ?_
    refine s_op (o_pick_f (u := (.bool false)) ((rfl : _ = _).trans (congrArg Value.bool (decide_eq_false h9))) rfl ?_)
    refine s_op (o_move (v := (.bool false)) rfl ?_)
    refine s_off (b' := false) 11 rfl rfl rfl ?_
    refine s_off (b' := false) 11 rfl rfl rfl ?_
    refine s_off (b' := false) 11 rfl rfl rfl ?_
    refine s_op (o_pick_f (u := (.bool false)) rfl rfl ?_)
    refine s_op (o_move (v := (.bool false)) rfl ?_)
    refine s_off (b' := false) 16 rfl rfl rfl ?_
    refine s_off (b' := false) 16 rfl rfl rfl ?_
    refine s_off (b' := false) 16 rfl rfl rfl ?_
    refine s_op (o_pick_f (u := (.bool false)) rfl rfl ?_)
    refine s_op (o_move (v := (.bool false)) rfl ?_)
    refine s_off (b' := false) 21 rfl rfl rfl ?_
    refine s_off (b' := false) 21 rfl rfl rfl ?_
    refine s_off (b' := false) 21 rfl rfl rfl ?_
    refine s_op (o_pick_f (u := (.bool false)) rfl rfl ?_)
    refine s_op (o_move (v := (.bool false)) rfl ?_)
    refine s_off (b' := false) 26 rfl rfl rfl ?_
    refine s_off (b' := false) 26 rfl rfl rfl ?_
    refine s_off (b' := false) 26 rfl rfl rfl ?_
    refine s_op (o_pick_f (u := (.bool false)) rfl rfl ?_)
    refine s_op (o_assign (v := (.bool false)) rfl ?_)
    refine s_nil ?_
    refine t_norm (hK5 _ _ ?_)
    refine wp_ret ?_
    refine c_ret1 Tryd.results11  (v := (.bool false)) rfl ?_
    have q33 : (hdR h) = false := by unfold hdR; first | (rw [decide_eq_decide]; omega) | (rw [decide_eq_false_iff_not]; omega)
    have hH34 : Has E w8 [R] := (hH7.front 1 rfl).first 1 rfl
    exact ⟨by rw [q33], hH34⟩
end Go.Q
