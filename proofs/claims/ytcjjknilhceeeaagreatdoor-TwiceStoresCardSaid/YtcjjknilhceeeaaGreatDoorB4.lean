/-
  Parts of a walk: what functions of the program compute, each told by a theorem (Qvt3, Qvt4, QY, QYS, QDevA, QAreaA, QvSh4, Qvt5, Qvt6, Qvt8, Qvt9, QTwA, Qvt11, QEq, QvEq, Qvp6, Qvp8, Qvt12, QTw4, QTw5, Qvt13, QTw6, Qvt14).
-/
import Derived.Test.YtcjjknilhceeeaaGreatDoorB3
import Derived.ChangeArms
import Derived.WideShapes
import Derived.DataElems
import Derived.SizedLaws
import Derived.Shelf.Strings.Trim
import Derived.Laws.StructEq
set_option linter.unusedVariables false
set_option linter.unusedSimpArgs false
set_option linter.unnecessarySimpa false
namespace Go.Q
open Go.Proofs
set_option linter.unusedVariables false
set_option maxRecDepth 100000
attribute [local irreducible] wpList OK Code.wp
set_option maxHeartbeats 4000000 in
theorem tstoreL_c {E w : World} {R sg : List Hp} {pb db tb : Nat} {d : Dv} {n : Int} (hH : Has E w [sg, [Hp.one pb (.cells #[(.bool d.p.off), (.bool d.p.armed), (.int .i64 d.p.left), (.int .i64 d.p.uses)] 101 (0, 0))], [Hp.one tb (.cells #[(.pointer (some ⟨db, 0, none⟩)), (.int .i64 n)] 98 (0, 0))], R]) (hd : DevAt pb sg db d.la d.lo) {k : Nat} (hf : Few d.p k) (hk : k ≤ 800000) (hlo : d.lo = []) (h4 : d.la.length ≤ 4096) (hg : CellsAt R 1 0 nibV) {v : Value} {l : List Pg} (hv : Sl R 3 v l.length (l.flatMap pgC)) (hok : ∀ a ∈ l, PgIn R a) (hll : l.length ≤ 1000) :
    Calls Tryz.prog 18 #[(.pointer (some ⟨tb, 0, none⟩)), v] w fun e w' => ∃ sg', e = .returned (.int .i64 (stL d n l).1) ∧ DevAt pb sg' db (stL d n l).2.la (stL d n l).2.lo ∧ Has E w' [sg', [Hp.one pb (.cells #[(.bool ((stL d n l).2).p.off), (.bool ((stL d n l).2).p.armed), (.int .i64 ((stL d n l).2).p.left), (.int .i64 ((stL d n l).2).p.uses)] 101 (0, 0))], [Hp.one tb (.cells #[(.pointer (some ⟨db, 0, none⟩)), (.int .i64 n)] 98 (0, 0))], R] := by
  have hn_ := hv.le
  refine c_enter (args := [(.pointer (some ⟨tb, 0, none⟩)), v]) Tryz.func18 rfl Tryz.ntmps18 (by simp) ?_
  refine wp_seq_k fun K1 hK1 => ?_
  refine c_region ?_
  refine s_op (o_assign (v := (.int .i64 0)) rfl ?_)
  refine s_nil ?_
  refine t_norm (hK1 _ _ ?_)
  refine wp_seq_k fun K2 hK2 => ?_
  refine wp_seq_k fun K3 hK3 => ?_
  refine c_region ?_
  refine s_op (o_move (v := (.pointer (some ⟨tb, 0, none⟩))) rfl ?_)
  refine s_op (o_pnil (p := some _) Tryz.underlying25 rfl rfl ?_)
  refine s_nil ?_
  refine t_norm (hK3 _ _ ?_)
  refine c_false rfl rfl ?_
  refine wp_skip ?_
  refine t_norm (hK2 _ _ ?_)
  refine wp_seq_k fun K4 hK4 => ?_
  refine wp_seq_k fun K5 hK5 => ?_
  refine c_region ?_
  refine s_op (o_move (v := v) rfl ?_)
  refine s_op (o_lenS Tryz.underlying31 rfl hv ?_)
  refine s_op (o_move (v := (.int .i64 0)) rfl ?_)
  refine s_nil ?_
  refine t_norm (hK5 _ _ ?_)
  refine wp_block ?_
  let I7 : Nat → (Nat → Value) → World → Prop := fun n__ r__ w__ => ∃ (i : Nat) (dc : Dv) (sgc : List Hp), n__ = l.length - i ∧ Has E w__ [sgc, [Hp.one pb (.cells #[(.bool dc.p.off), (.bool dc.p.armed), (.int .i64 dc.p.left), (.int .i64 dc.p.uses)] 101 (0, 0))], [Hp.one tb (.cells #[(.pointer (some ⟨db, 0, none⟩)), (.int .i64 n)] 98 (0, 0))], R] ∧ (i ≤ l.length) ∧ (DevAt pb sgc db dc.la dc.lo) ∧ (Few dc.p (k + 14 * i)) ∧ (dc.lo = []) ∧ (dc.la.length = d.la.length) ∧ (stL d n l = stL dc n (l.drop i)) ∧ r__ 0 = (.pointer (some ⟨tb, 0, none⟩)) ∧ r__ 1 = v ∧ r__ 9 = (.bool false) ∧ r__ 10 = v ∧ r__ 11 = (.int .i64 ((l.length : Nat) : Int)) ∧ r__ 12 = (.int .i64 (i : Int))
  refine c_loop I7 _ ⟨0, d, sg, rfl, hH, Nat.zero_le _, hd, hf, hlo, rfl, rfl, rfl, rfl, rfl, rfl, rfl, rfl⟩ ?_
  rintro n_ r10 w8 ⟨i, dc, sgc, rfl, hH9, hi, hdc, hfc, hlc, hnc, hst, e6_0, e6_1, e6_9, e6_10, e6_11, e6_12⟩
  refine wp_seq_k fun K11 hK11 => ?_
  refine c_region ?_
  refine s_op (o_lss (a := (i : Int)) (b := ((l.length : Nat) : Int)) e6_12 e6_11 ?_)
  refine s_nil ?_
  refine t_norm (hK11 _ _ ?_)
  refine wp_seq_k fun K12 hK12 => ?_
  refine c_cond rfl (fun h13 => ?_) (fun h13 => ?_)
  · -- (i : Int) < ((l.length : Nat) : Int)
    refine wp_skip ?_
    refine t_norm (hK12 _ _ ?_)
    refine wp_seq_k fun K14 hK14 => ?_
    refine wp_block ?_
    refine wp_seq_k fun K15 hK15 => ?_
    refine c_region ?_
    obtain ⟨x19, hx20⟩ : ∃ x_, l[((i : Int)).toNat]? = some x_ := get_some (by omega)
    refine s_op (o_indexF pgC_len Tryz.underlying31 ti36 e6_10 hv rfl e6_12 (by omega) hx20 fun b16 o17 hc18 => ?_)
    refine s_op (o_loadN (cs := [(.int .i64 x19.1), (.int .i64 x19.2.1), x19.2.2.1]) Tryz.underlying36 rfl ti36 rfl hH9 (seg_sub 3 rfl) hc18 ?_)
    refine s_op (o_alloc (cs := #[(.int .i64 0), (.int .i64 0), (.slice none 0 0)]) ti36 rfl hH9 fun b21 w22 hH23 => ?_)
    refine s_eff (o_storeN (vs := [(.int .i64 x19.1), (.int .i64 x19.2.1), x19.2.2.1]) (c' := #[(.int .i64 x19.1), (.int .i64 x19.2.1), x19.2.2.1]) ti36 rfl rfl rfl rfl (by intro u hu; simp only [List.mem_cons, List.not_mem_nil, or_false] at hu; rcases hu with rfl | rfl | rfl <;> first | rfl | exact (hok x19 (List.mem_of_getElem? hx20)).one) (by simp) (by kernel_rfl) (hH23.front 0 rfl) fun w24 hH25 => ?_)
    refine s_nil ?_
    refine t_norm (hK15 _ _ ?_)
    refine wp_seq_k fun K26 hK26 => ?_
    refine c_region ?_
    refine s_op (o_move (v := (.pointer (some ⟨tb, 0, none⟩))) e6_0 ?_)
    refine s_op (o_loadN (cs := [(.int .i64 x19.1), (.int .i64 x19.2.1), x19.2.2.1]) Tryz.underlying36 rfl ti36 rfl hH25 (seg_sub 0 rfl) (CellsAt.one rfl) ?_)
    refine s_op (o_callf (vs := #[(.pointer (some ⟨tb, 0, none⟩)), (.agg #[(.int .i64 x19.1), (.int .i64 x19.2.1), x19.2.2.1])]) ca56 rfl (args2 rfl rfl) (tstore_c (d := dc) (n := n) (((hH25.front 3 rfl).front 3 rfl).front 3 rfl).all3 hdc hfc (by omega) hlc (by rw [hnc]; exact h4) (hg.mono (seg_sub 1 rfl)) (a := x19) (PgIn.mono (hok x19 (List.mem_of_getElem? hx20)) (seg_sub 1 rfl))) ?_)
    rintro _ w31 ⟨sg27, rfl, hd28, hX29⟩
    refine ⟨_, rfl, ?_⟩
    have hH30 : Has E w31 [sg27, [Hp.one pb (.cells #[(.bool ((st1 dc n x19).2).p.off), (.bool ((st1 dc n x19).2).p.armed), (.int .i64 ((st1 dc n x19).2).p.left), (.int .i64 ((st1 dc n x19).2).p.uses)] 101 (0, 0))], [Hp.one tb (.cells #[(.pointer (some ⟨db, 0, none⟩)), (.int .i64 n)] 98 (0, 0))], [Hp.one b21 (.cells #[(.int .i64 x19.1), (.int .i64 x19.2.1), x19.2.2.1] 36 (0, 0))], R] := hX29.of_all3
    refine s_op (o_assign (v := (.int .i64 ((st1 dc n x19).1))) rfl ?_)
    refine s_nil ?_
    refine t_norm (hK26 _ _ ?_)
    refine wp_seq_k fun K32 hK32 => ?_
    refine c_region ?_
    refine s_op (o_move (v := (.int .i64 ((st1 dc n x19).1))) rfl ?_)
    refine s_op (o_neq (a := (st1 dc n x19).1) (b := 0) rfl rfl ?_)
    refine s_nil ?_
    refine t_norm (hK32 _ _ ?_)
    refine c_cond rfl (fun h33 => ?_) (fun h33 => ?_)
    · -- (st1 dc n x19).1 ≠ 0
      refine wp_seq_k fun K34 hK34 => ?_
      refine c_region ?_
      refine s_op (o_move (v := (.int .i64 ((st1 dc n x19).1))) rfl ?_)
      refine s_op (o_assign (v := (.int .i64 ((st1 dc n x19).1))) rfl ?_)
      refine s_nil ?_
      refine t_norm (hK34 _ _ ?_)
      refine wp_ret ?_
      refine b_ret (t_ret (t_ret (b_ret (t_ret (c_ret1 Tryz.results18  (v := (.int .i64 ((st1 dc n x19).1))) rfl ?_)))))
      have hH35 : Has E w31 [sg27, [Hp.one pb (.cells #[(.bool ((st1 dc n x19).2).p.off), (.bool ((st1 dc n x19).2).p.armed), (.int .i64 ((st1 dc n x19).2).p.left), (.int .i64 ((st1 dc n x19).2).p.uses)] 101 (0, 0))], [Hp.one tb (.cells #[(.pointer (some ⟨db, 0, none⟩)), (.int .i64 n)] 98 (0, 0))], R] := ((((hH30.front 4 rfl).front 3 rfl).front 3 rfl).front 3 rfl).first 4 rfl
      have hE_ : (stL d n l) = (st1 dc n x19) := stL_stop (show l[i]? = some _ from hx20) hst h33
      exact ⟨_, by rw [hE_], by rw [hE_]; exact hd28, by rw [hE_]; exact hH35⟩
    · -- not: (st1 dc n x19).1 ≠ 0
      refine wp_skip ?_
      refine b_norm ?_
      refine t_norm (hK14 _ _ ?_)
      refine c_region ?_
      refine s_op (o_add (a := (i : Int)) (b := 1) e6_12 rfl (w64 (by omega) (by omega)) ?_)
      refine s_op (o_move (v := (.int .i64 ((i : Int) + 1))) rfl ?_)
      refine s_nil ?_
      have hH36 : Has E w31 [sg27, [Hp.one pb (.cells #[(.bool ((st1 dc n x19).2).p.off), (.bool ((st1 dc n x19).2).p.armed), (.int .i64 ((st1 dc n x19).2).p.left), (.int .i64 ((st1 dc n x19).2).p.uses)] 101 (0, 0))], [Hp.one tb (.cells #[(.pointer (some ⟨db, 0, none⟩)), (.int .i64 n)] 98 (0, 0))], R] := ((((hH30.front 4 rfl).front 3 rfl).front 3 rfl).front 3 rfl).first 4 rfl
      refine t_norm ⟨l.length - (i + 1), _, rfl, ?_, ?_⟩
      · omega
      · exact ⟨(i + 1), ((st1 dc n x19).2), sg27, rfl, hH36, (by omega), (hd28), ((few_st1 hfc).mono (by omega)), (st1_zero hlc (Classical.not_not.1 h33)), (by rw [st1_len]; exact hnc), (stL_go (show l[i]? = some _ from hx20) hst (Classical.not_not.1 h33)), e6_0, e6_1, e6_9, e6_10, e6_11, rfl⟩
  · -- not: (i : Int) < ((l.length : Nat) : Int)
    refine wp_exit ?_
    refine t_exit (t_exit (x_in (?_)))
    refine t_norm (hK4 _ _ ?_)
    refine wp_seq_k fun K37 hK37 => ?_
    refine c_region ?_
    refine s_op (o_assign (v := (.int .i64 0)) rfl ?_)
    refine s_nil ?_
    refine t_norm (hK37 _ _ ?_)
    refine wp_ret ?_
    refine c_ret1 Tryz.results18  (v := (.int .i64 0)) rfl ?_
    have hE_ : (stL d n l) = (0, dc) := by rw [hst, List.drop_of_length_le (by omega)]; rfl
    exact ⟨_, by rw [hE_], by rw [hE_]; exact hdc, by rw [hE_]; exact hH9⟩
end Go.Q
namespace Go.Q
open Go.Proofs
set_option linter.unusedVariables false
set_option maxRecDepth 100000
attribute [local irreducible] wpList OK Code.wp
set_option maxHeartbeats 4000000 in
theorem tget_on {E w : World} {R sg : List Hp} {pb db tb : Nat} {d : Dv} {n : Int} (hH : Has E w [sg, [Hp.one pb (.cells #[(.bool d.p.off), (.bool d.p.armed), (.int .i64 d.p.left), (.int .i64 d.p.uses)] 101 (0, 0))], [Hp.one tb (.cells #[(.pointer (some ⟨db, 0, none⟩)), (.int .i64 n)] 98 (0, 0))], R]) (hd : DevAt pb sg db d.la d.lo) (hlo : d.lo = []) (hon : d.p.off = false) (h64 : Full64 d.la) {x : Int} (hx : 0 ≤ x ∧ x + 4 ≤ d.la.length) (h4 : d.la.length ≤ 4096) :
    Calls Tryz.prog 63 #[(.pointer (some ⟨tb, 0, none⟩)), (.int .i64 x)] w fun e w' => e = .returned (.tuple #[S (pgB d.la x), .int .i64 0]) ∧ Has E w' [sg, [Hp.one pb (.cells #[(.bool d.p.off), (.bool d.p.armed), (.int .i64 d.p.left), (.int .i64 d.p.uses)] 101 (0, 0))], [Hp.one tb (.cells #[(.pointer (some ⟨db, 0, none⟩)), (.int .i64 n)] 98 (0, 0))], R] := by
  refine c_enter (args := [(.pointer (some ⟨tb, 0, none⟩)), (.int .i64 x)]) Tryz.func63 rfl Tryz.ntmps63 (by simp) ?_
  refine wp_seq_k fun K1 hK1 => ?_
  refine c_region ?_
  refine s_op (o_assign (v := (S ([] : List UInt8))) rfl ?_)
  refine s_op (o_assign (v := (.int .i64 0)) rfl ?_)
  refine s_nil ?_
  refine t_norm (hK1 _ _ ?_)
  refine wp_seq_k fun K2 hK2 => ?_
  refine c_region ?_
  refine s_op (o_alloc (cs := #[(.pointer none), (.slice none 0 0)]) ti145 rfl hH fun b3 w4 hH5 => ?_)
  refine s_nil ?_
  refine t_norm (hK2 _ _ ?_)
  refine wp_seq_k fun K6 hK6 => ?_
  refine wp_seq_k fun K7 hK7 => ?_
  refine c_region ?_
  refine s_op (o_move (v := (.int .i64 0)) rfl ?_)
  refine s_nil ?_
  refine t_norm (hK7 _ _ ?_)
  refine wp_block ?_
  refine u_loop 5 (u_round ?_)
  refine wp_seq_k fun K8 hK8 => ?_
  refine c_region ?_
  refine s_op (o_lss (a := 0) (b := 4) rfl rfl ?_)
  refine s_nil ?_
  refine t_norm (hK8 _ _ ?_)
  refine wp_seq_k fun K9 hK9 => ?_
  refine c_true rfl rfl ?_
  refine wp_skip ?_
  refine t_norm (hK9 _ _ ?_)
  refine wp_seq_k fun K10 hK10 => ?_
  refine wp_block ?_
  refine wp_seq_k fun K11 hK11 => ?_
  refine c_region ?_
  refine s_op (o_move (v := (.int .i64 0)) rfl ?_)
  refine s_op (o_assign (v := (.int .i64 0)) rfl ?_)
  refine s_nil ?_
  refine t_norm (hK11 _ _ ?_)
  refine wp_seq_k fun K12 hK12 => ?_
  refine c_region ?_
  refine s_op (o_move (v := (.pointer (some ⟨tb, 0, none⟩))) rfl ?_)
  refine s_op (o_nilCheck rfl ?_)
  refine s_op (o_fieldAddr (k := 0) (fun _ => by kernel_rfl) rfl ?_)
  refine s_op (o_load1 (v := (.pointer (some ⟨db, 0, none⟩))) Tryz.underlying29 rfl rfl hH5 (seg_sub 3 rfl) (CellsAt.one rfl) ?_)
  refine s_op (o_move (v := (.int .i64 x)) rfl ?_)
  refine s_op (o_move (v := (.int .i64 0)) rfl ?_)
  refine s_op (o_add (a := x) (b := 0) (c := x) rfl rfl (by rw [Int.add_zero]; exact w64 (by omega) (by omega)) ?_)
  refine s_op (o_callf (vs := #[(.pointer (some ⟨db, 0, none⟩)), (.int .i64 x)]) ca32 rfl (args2 rfl rfl) (read_d (p := d.p) (la := d.la) (lo := d.lo) ((hH5.front 2 rfl).front 2 rfl).all2 hd x) ?_)
  rintro _ w15 ⟨rfl, hX13⟩
  refine ⟨_, rfl, ?_⟩
  have hH14 : Has E w15 [sg, [Hp.one pb (.cells #[(.bool d.p.off), (.bool d.p.armed), (.int .i64 d.p.left), (.int .i64 d.p.uses)] 101 (0, 0))], [Hp.one b3 (.cells #[(.pointer none), (.slice none 0 0)] 145 (0, 0))], [Hp.one tb (.cells #[(.pointer (some ⟨db, 0, none⟩)), (.int .i64 n)] 98 (0, 0))], R] := hX13.of_all2
  refine s_op (o_move (v := (.tuple #[(S (readS d.p d.la d.lo x)), (.int .i64 (readE d.p d.la x))])) rfl ?_)
  refine s_op (o_extract (v := (S (readS d.p d.la d.lo x))) rfl rfl ?_)
  refine s_op (o_extract (v := (.int .i64 (readE d.p d.la x))) rfl rfl ?_)
  refine s_op (o_assign (v := (S (readS d.p d.la d.lo x))) rfl ?_)
  refine s_op (o_assign (v := (.int .i64 (readE d.p d.la x))) rfl ?_)
  refine s_nil ?_
  refine t_norm (hK12 _ _ ?_)
  refine wp_seq_k fun K16 hK16 => ?_
  refine wp_seq_k fun K17 hK17 => ?_
  refine c_region ?_
  refine s_op (o_move (v := (.int .i64 (readE d.p d.la x))) rfl ?_)
  refine s_op (o_neq (a := readE d.p d.la x) (b := 0) rfl rfl ?_)
  refine s_nil ?_
  refine t_norm (hK17 _ _ ?_)
  refine c_cond rfl (fun h18 => ?_) (fun h18 => ?_)
  · -- readE d.p d.la x ≠ 0
    obtain ⟨hs19_, he19_⟩ := rd_sec (d := d) (n := x) hlo hon ⟨by omega, by omega⟩
    have hl19_ : (readS d.p d.la d.lo x).length = 64 := by rw [hs19_]; exact sec_len h64 ⟨by omega, by omega⟩
    exact absurd he19_ h18
  · -- not: readE d.p d.la x ≠ 0
    obtain ⟨hs20_, he20_⟩ := rd_sec (d := d) (n := x) hlo hon ⟨by omega, by omega⟩
    have hl20_ : (readS d.p d.la d.lo x).length = 64 := by rw [hs20_]; exact sec_len h64 ⟨by omega, by omega⟩
    refine wp_skip ?_
    refine t_norm (hK16 _ _ ?_)
    refine c_region ?_
    refine s_op (o_move (v := (S (readS d.p d.la d.lo x))) rfl ?_)
    refine s_op (o_callf (vs := #[(.pointer (some ⟨b3, 0, none⟩)), (S (readS d.p d.la d.lo x))]) ca103 rfl (args2 rfl rfl) (bws (hH14.front 2 rfl).all1 (Bld.new b3) (readS d.p d.la d.lo x) (by simp only [List.length_append, List.length_nil]; omega)) ?_)
    rintro _ w25 ⟨sg21, rfl, hB22, hX23⟩
    refine ⟨_, rfl, ?_⟩
    have hH24 : Has E w25 [sg21, sg, [Hp.one pb (.cells #[(.bool d.p.off), (.bool d.p.armed), (.int .i64 d.p.left), (.int .i64 d.p.uses)] 101 (0, 0))], [Hp.one tb (.cells #[(.pointer (some ⟨db, 0, none⟩)), (.int .i64 n)] 98 (0, 0))], R] := hX23.of_all1
    refine s_nil ?_
    refine b_norm ?_
    refine t_norm (hK10 _ _ ?_)
    refine c_region ?_
    refine s_op (o_add (a := 0) (b := 1) (c := 1) rfl rfl (by decide) ?_)
    refine s_op (o_move (v := (.int .i64 1)) rfl ?_)
    refine s_nil ?_
    refine t_norm (u_round ?_)
    refine wp_seq_k fun K26 hK26 => ?_
    refine c_region ?_
    refine s_op (o_lss (a := 1) (b := 4) rfl rfl ?_)
    refine s_nil ?_
    refine t_norm (hK26 _ _ ?_)
    refine wp_seq_k fun K27 hK27 => ?_
    refine c_true rfl rfl ?_
    refine wp_skip ?_
    refine t_norm (hK27 _ _ ?_)
    refine wp_seq_k fun K28 hK28 => ?_
    refine wp_block ?_
    refine wp_seq_k fun K29 hK29 => ?_
    refine c_region ?_
    refine s_op (o_move (v := (.int .i64 1)) rfl ?_)
    refine s_op (o_assign (v := (.int .i64 1)) rfl ?_)
    refine s_nil ?_
    refine t_norm (hK29 _ _ ?_)
    refine wp_seq_k fun K30 hK30 => ?_
    refine c_region ?_
    refine s_op (o_move (v := (.pointer (some ⟨tb, 0, none⟩))) rfl ?_)
    refine s_op (o_nilCheck rfl ?_)
    refine s_op (o_fieldAddr (k := 0) (fun _ => by kernel_rfl) rfl ?_)
    refine s_op (o_load1 (v := (.pointer (some ⟨db, 0, none⟩))) Tryz.underlying29 rfl rfl hH24 (seg_sub 3 rfl) (CellsAt.one rfl) ?_)
    refine s_op (o_move (v := (.int .i64 x)) rfl ?_)
    refine s_op (o_move (v := (.int .i64 1)) rfl ?_)
    refine s_op (o_add (a := x) (b := 1) rfl rfl (w64 (by omega) (by omega)) ?_)
    refine s_op (o_callf (vs := #[(.pointer (some ⟨db, 0, none⟩)), (.int .i64 (x + 1))]) ca32 rfl (args2 rfl rfl) (read_d (p := d.p) (la := d.la) (lo := d.lo) ((hH24.front 2 rfl).front 2 rfl).all2 hd (x + 1)) ?_)
    rintro _ w33 ⟨rfl, hX31⟩
    refine ⟨_, rfl, ?_⟩
    have hH32 : Has E w33 [sg, [Hp.one pb (.cells #[(.bool d.p.off), (.bool d.p.armed), (.int .i64 d.p.left), (.int .i64 d.p.uses)] 101 (0, 0))], sg21, [Hp.one tb (.cells #[(.pointer (some ⟨db, 0, none⟩)), (.int .i64 n)] 98 (0, 0))], R] := hX31.of_all2
    refine s_op (o_move (v := (.tuple #[(S (readS d.p d.la d.lo (x + 1))), (.int .i64 (readE d.p d.la (x + 1)))])) rfl ?_)
    refine s_op (o_extract (v := (S (readS d.p d.la d.lo (x + 1)))) rfl rfl ?_)
    refine s_op (o_extract (v := (.int .i64 (readE d.p d.la (x + 1)))) rfl rfl ?_)
    refine s_op (o_assign (v := (S (readS d.p d.la d.lo (x + 1)))) rfl ?_)
    refine s_op (o_assign (v := (.int .i64 (readE d.p d.la (x + 1)))) rfl ?_)
    refine s_nil ?_
    refine t_norm (hK30 _ _ ?_)
    refine wp_seq_k fun K34 hK34 => ?_
    refine wp_seq_k fun K35 hK35 => ?_
    refine c_region ?_
    refine s_op (o_move (v := (.int .i64 (readE d.p d.la (x + 1)))) rfl ?_)
    refine s_op (o_neq (a := readE d.p d.la (x + 1)) (b := 0) rfl rfl ?_)
    refine s_nil ?_
    refine t_norm (hK35 _ _ ?_)
    refine c_cond rfl (fun h36 => ?_) (fun h36 => ?_)
    · -- readE d.p d.la (x + 1) ≠ 0
      obtain ⟨hs37_, he37_⟩ := rd_sec (d := d) (n := x + 1) hlo hon ⟨by omega, by omega⟩
      have hl37_ : (readS d.p d.la d.lo (x + 1)).length = 64 := by rw [hs37_]; exact sec_len h64 ⟨by omega, by omega⟩
      exact absurd he37_ h36
    · -- not: readE d.p d.la (x + 1) ≠ 0
      obtain ⟨hs38_, he38_⟩ := rd_sec (d := d) (n := x + 1) hlo hon ⟨by omega, by omega⟩
      have hl38_ : (readS d.p d.la d.lo (x + 1)).length = 64 := by rw [hs38_]; exact sec_len h64 ⟨by omega, by omega⟩
      refine wp_skip ?_
      refine t_norm (hK34 _ _ ?_)
      refine c_region ?_
      refine s_op (o_move (v := (S (readS d.p d.la d.lo (x + 1)))) rfl ?_)
      refine s_op (o_callf (vs := #[(.pointer (some ⟨b3, 0, none⟩)), (S (readS d.p d.la d.lo (x + 1)))]) ca103 rfl (args2 rfl rfl) (bws (hH32.front 2 rfl).all1 hB22 (readS d.p d.la d.lo (x + 1)) (by simp only [List.length_append, List.length_nil]; omega)) ?_)
      rintro _ w43 ⟨sg39, rfl, hB40, hX41⟩
      refine ⟨_, rfl, ?_⟩
      have hH42 : Has E w43 [sg39, sg, [Hp.one pb (.cells #[(.bool d.p.off), (.bool d.p.armed), (.int .i64 d.p.left), (.int .i64 d.p.uses)] 101 (0, 0))], [Hp.one tb (.cells #[(.pointer (some ⟨db, 0, none⟩)), (.int .i64 n)] 98 (0, 0))], R] := hX41.of_all1
      refine s_nil ?_
      refine b_norm ?_
      refine t_norm (hK28 _ _ ?_)
      refine c_region ?_
      refine s_op (o_add (a := 1) (b := 1) (c := 2) rfl rfl (by decide) ?_)
      refine s_op (o_move (v := (.int .i64 2)) rfl ?_)
      refine s_nil ?_
      refine t_norm (u_round ?_)
      refine wp_seq_k fun K44 hK44 => ?_
      refine c_region ?_
      refine s_op (o_lss (a := 2) (b := 4) rfl rfl ?_)
      refine s_nil ?_
      refine t_norm (hK44 _ _ ?_)
      refine wp_seq_k fun K45 hK45 => ?_
      refine c_true rfl rfl ?_
      refine wp_skip ?_
      refine t_norm (hK45 _ _ ?_)
      refine wp_seq_k fun K46 hK46 => ?_
      refine wp_block ?_
      refine wp_seq_k fun K47 hK47 => ?_
      refine c_region ?_
      refine s_op (o_move (v := (.int .i64 2)) rfl ?_)
      refine s_op (o_assign (v := (.int .i64 2)) rfl ?_)
      refine s_nil ?_
      refine t_norm (hK47 _ _ ?_)
      refine wp_seq_k fun K48 hK48 => ?_
      refine c_region ?_
      refine s_op (o_move (v := (.pointer (some ⟨tb, 0, none⟩))) rfl ?_)
      refine s_op (o_nilCheck rfl ?_)
      refine s_op (o_fieldAddr (k := 0) (fun _ => by kernel_rfl) rfl ?_)
      refine s_op (o_load1 (v := (.pointer (some ⟨db, 0, none⟩))) Tryz.underlying29 rfl rfl hH42 (seg_sub 3 rfl) (CellsAt.one rfl) ?_)
      refine s_op (o_move (v := (.int .i64 x)) rfl ?_)
      refine s_op (o_move (v := (.int .i64 2)) rfl ?_)
      refine s_op (o_add (a := x) (b := 2) rfl rfl (w64 (by omega) (by omega)) ?_)
      refine s_op (o_callf (vs := #[(.pointer (some ⟨db, 0, none⟩)), (.int .i64 (x + 2))]) ca32 rfl (args2 rfl rfl) (read_d (p := d.p) (la := d.la) (lo := d.lo) ((hH42.front 2 rfl).front 2 rfl).all2 hd (x + 2)) ?_)
      rintro _ w51 ⟨rfl, hX49⟩
      refine ⟨_, rfl, ?_⟩
      have hH50 : Has E w51 [sg, [Hp.one pb (.cells #[(.bool d.p.off), (.bool d.p.armed), (.int .i64 d.p.left), (.int .i64 d.p.uses)] 101 (0, 0))], sg39, [Hp.one tb (.cells #[(.pointer (some ⟨db, 0, none⟩)), (.int .i64 n)] 98 (0, 0))], R] := hX49.of_all2
      refine s_op (o_move (v := (.tuple #[(S (readS d.p d.la d.lo (x + 2))), (.int .i64 (readE d.p d.la (x + 2)))])) rfl ?_)
      refine s_op (o_extract (v := (S (readS d.p d.la d.lo (x + 2)))) rfl rfl ?_)
      refine s_op (o_extract (v := (.int .i64 (readE d.p d.la (x + 2)))) rfl rfl ?_)
      refine s_op (o_assign (v := (S (readS d.p d.la d.lo (x + 2)))) rfl ?_)
      refine s_op (o_assign (v := (.int .i64 (readE d.p d.la (x + 2)))) rfl ?_)
      refine s_nil ?_
      refine t_norm (hK48 _ _ ?_)
      refine wp_seq_k fun K52 hK52 => ?_
      refine wp_seq_k fun K53 hK53 => ?_
      refine c_region ?_
      refine s_op (o_move (v := (.int .i64 (readE d.p d.la (x + 2)))) rfl ?_)
      refine s_op (o_neq (a := readE d.p d.la (x + 2)) (b := 0) rfl rfl ?_)
      refine s_nil ?_
      refine t_norm (hK53 _ _ ?_)
      refine c_cond rfl (fun h54 => ?_) (fun h54 => ?_)
      · -- readE d.p d.la (x + 2) ≠ 0
        obtain ⟨hs55_, he55_⟩ := rd_sec (d := d) (n := x + 2) hlo hon ⟨by omega, by omega⟩
        have hl55_ : (readS d.p d.la d.lo (x + 2)).length = 64 := by rw [hs55_]; exact sec_len h64 ⟨by omega, by omega⟩
        exact absurd he55_ h54
      · -- not: readE d.p d.la (x + 2) ≠ 0
        obtain ⟨hs56_, he56_⟩ := rd_sec (d := d) (n := x + 2) hlo hon ⟨by omega, by omega⟩
        have hl56_ : (readS d.p d.la d.lo (x + 2)).length = 64 := by rw [hs56_]; exact sec_len h64 ⟨by omega, by omega⟩
        refine wp_skip ?_
        refine t_norm (hK52 _ _ ?_)
        refine c_region ?_
        refine s_op (o_move (v := (S (readS d.p d.la d.lo (x + 2)))) rfl ?_)
        refine s_op (o_callf (vs := #[(.pointer (some ⟨b3, 0, none⟩)), (S (readS d.p d.la d.lo (x + 2)))]) ca103 rfl (args2 rfl rfl) (bws (hH50.front 2 rfl).all1 hB40 (readS d.p d.la d.lo (x + 2)) (by simp only [List.length_append, List.length_nil]; omega)) ?_)
        rintro _ w61 ⟨sg57, rfl, hB58, hX59⟩
        refine ⟨_, rfl, ?_⟩
        have hH60 : Has E w61 [sg57, sg, [Hp.one pb (.cells #[(.bool d.p.off), (.bool d.p.armed), (.int .i64 d.p.left), (.int .i64 d.p.uses)] 101 (0, 0))], [Hp.one tb (.cells #[(.pointer (some ⟨db, 0, none⟩)), (.int .i64 n)] 98 (0, 0))], R] := hX59.of_all1
        refine s_nil ?_
        refine b_norm ?_
        refine t_norm (hK46 _ _ ?_)
        refine c_region ?_
        refine s_op (o_add (a := 2) (b := 1) (c := 3) rfl rfl (by decide) ?_)
        refine s_op (o_move (v := (.int .i64 3)) rfl ?_)
        refine s_nil ?_
        refine t_norm (u_round ?_)
        refine wp_seq_k fun K62 hK62 => ?_
        refine c_region ?_
        refine s_op (o_lss (a := 3) (b := 4) rfl rfl ?_)
        refine s_nil ?_
        refine t_norm (hK62 _ _ ?_)
        refine wp_seq_k fun K63 hK63 => ?_
        refine c_true rfl rfl ?_
        refine wp_skip ?_
        refine t_norm (hK63 _ _ ?_)
        refine wp_seq_k fun K64 hK64 => ?_
        refine wp_block ?_
        refine wp_seq_k fun K65 hK65 => ?_
        refine c_region ?_
        refine s_op (o_move (v := (.int .i64 3)) rfl ?_)
        refine s_op (o_assign (v := (.int .i64 3)) rfl ?_)
        refine s_nil ?_
        refine t_norm (hK65 _ _ ?_)
        refine wp_seq_k fun K66 hK66 => ?_
        refine c_region ?_
        refine s_op (o_move (v := (.pointer (some ⟨tb, 0, none⟩))) rfl ?_)
        refine s_op (o_nilCheck rfl ?_)
        refine s_op (o_fieldAddr (k := 0) (fun _ => by kernel_rfl) rfl ?_)
        refine s_op (o_load1 (v := (.pointer (some ⟨db, 0, none⟩))) Tryz.underlying29 rfl rfl hH60 (seg_sub 3 rfl) (CellsAt.one rfl) ?_)
        refine s_op (o_move (v := (.int .i64 x)) rfl ?_)
        refine s_op (o_move (v := (.int .i64 3)) rfl ?_)
        refine s_op (o_add (a := x) (b := 3) rfl rfl (w64 (by omega) (by omega)) ?_)
        refine s_op (o_callf (vs := #[(.pointer (some ⟨db, 0, none⟩)), (.int .i64 (x + 3))]) ca32 rfl (args2 rfl rfl) (read_d (p := d.p) (la := d.la) (lo := d.lo) ((hH60.front 2 rfl).front 2 rfl).all2 hd (x + 3)) ?_)
        rintro _ w69 ⟨rfl, hX67⟩
        refine ⟨_, rfl, ?_⟩
        have hH68 : Has E w69 [sg, [Hp.one pb (.cells #[(.bool d.p.off), (.bool d.p.armed), (.int .i64 d.p.left), (.int .i64 d.p.uses)] 101 (0, 0))], sg57, [Hp.one tb (.cells #[(.pointer (some ⟨db, 0, none⟩)), (.int .i64 n)] 98 (0, 0))], R] := hX67.of_all2
        refine s_op (o_move (v := (.tuple #[(S (readS d.p d.la d.lo (x + 3))), (.int .i64 (readE d.p d.la (x + 3)))])) rfl ?_)
        refine s_op (o_extract (v := (S (readS d.p d.la d.lo (x + 3)))) rfl rfl ?_)
        refine s_op (o_extract (v := (.int .i64 (readE d.p d.la (x + 3)))) rfl rfl ?_)
        refine s_op (o_assign (v := (S (readS d.p d.la d.lo (x + 3)))) rfl ?_)
        refine s_op (o_assign (v := (.int .i64 (readE d.p d.la (x + 3)))) rfl ?_)
        refine s_nil ?_
        refine t_norm (hK66 _ _ ?_)
        refine wp_seq_k fun K70 hK70 => ?_
        refine wp_seq_k fun K71 hK71 => ?_
        refine c_region ?_
        refine s_op (o_move (v := (.int .i64 (readE d.p d.la (x + 3)))) rfl ?_)
        refine s_op (o_neq (a := readE d.p d.la (x + 3)) (b := 0) rfl rfl ?_)
        refine s_nil ?_
        refine t_norm (hK71 _ _ ?_)
        refine c_cond rfl (fun h72 => ?_) (fun h72 => ?_)
        · -- readE d.p d.la (x + 3) ≠ 0
          obtain ⟨hs73_, he73_⟩ := rd_sec (d := d) (n := x + 3) hlo hon ⟨by omega, by omega⟩
          have hl73_ : (readS d.p d.la d.lo (x + 3)).length = 64 := by rw [hs73_]; exact sec_len h64 ⟨by omega, by omega⟩
          exact absurd he73_ h72
        · -- not: readE d.p d.la (x + 3) ≠ 0
          obtain ⟨hs74_, he74_⟩ := rd_sec (d := d) (n := x + 3) hlo hon ⟨by omega, by omega⟩
          have hl74_ : (readS d.p d.la d.lo (x + 3)).length = 64 := by rw [hs74_]; exact sec_len h64 ⟨by omega, by omega⟩
          refine wp_skip ?_
          refine t_norm (hK70 _ _ ?_)
          refine c_region ?_
          refine s_op (o_move (v := (S (readS d.p d.la d.lo (x + 3)))) rfl ?_)
          refine s_op (o_callf (vs := #[(.pointer (some ⟨b3, 0, none⟩)), (S (readS d.p d.la d.lo (x + 3)))]) ca103 rfl (args2 rfl rfl) (bws (hH68.front 2 rfl).all1 hB58 (readS d.p d.la d.lo (x + 3)) (by simp only [List.length_append, List.length_nil]; omega)) ?_)
          rintro _ w79 ⟨sg75, rfl, hB76, hX77⟩
          refine ⟨_, rfl, ?_⟩
          have hH78 : Has E w79 [sg75, sg, [Hp.one pb (.cells #[(.bool d.p.off), (.bool d.p.armed), (.int .i64 d.p.left), (.int .i64 d.p.uses)] 101 (0, 0))], [Hp.one tb (.cells #[(.pointer (some ⟨db, 0, none⟩)), (.int .i64 n)] 98 (0, 0))], R] := hX77.of_all1
          refine s_nil ?_
          refine b_norm ?_
          refine t_norm (hK64 _ _ ?_)
          refine c_region ?_
          refine s_op (o_add (a := 3) (b := 1) (c := 4) rfl rfl (by decide) ?_)
          refine s_op (o_move (v := (.int .i64 4)) rfl ?_)
          refine s_nil ?_
          refine t_norm (u_round ?_)
          refine wp_seq_k fun K80 hK80 => ?_
          refine c_region ?_
          refine s_op (o_lss (a := 4) (b := 4) rfl rfl ?_)
          refine s_nil ?_
          refine t_norm (hK80 _ _ ?_)
          refine wp_seq_k fun K81 hK81 => ?_
          refine c_false rfl rfl ?_
          refine wp_exit ?_
          refine t_exit (t_exit (x_in (?_)))
          refine t_norm (hK6 _ _ ?_)
          refine wp_seq_k fun K82 hK82 => ?_
          refine c_region ?_
          refine s_op (o_callf (vs := #[(.pointer (some ⟨b3, 0, none⟩))]) ca104 rfl (args1 rfl) (bstrK hH78.all1 hB76) ?_)
          rintro _ w88 ⟨a83, p84, c85, rfl, hX86⟩
          refine ⟨_, rfl, ?_⟩
          have hH87 : Has E w88 [[Hp.one b3 (.cells #[a83, (.slice p84 ((((([] : Bs) ++ (readS d.p d.la d.lo x)) ++ (readS d.p d.la d.lo (x + 1))) ++ (readS d.p d.la d.lo (x + 2))) ++ (readS d.p d.la d.lo (x + 3))).length c85)] 145 (0, 0))], sg, [Hp.one pb (.cells #[(.bool d.p.off), (.bool d.p.armed), (.int .i64 d.p.left), (.int .i64 d.p.uses)] 101 (0, 0))], [Hp.one tb (.cells #[(.pointer (some ⟨db, 0, none⟩)), (.int .i64 n)] 98 (0, 0))], R] := hX86.of_all1
          refine s_op (o_assign (v := (S ((((([] : Bs) ++ (readS d.p d.la d.lo x)) ++ (readS d.p d.la d.lo (x + 1))) ++ (readS d.p d.la d.lo (x + 2))) ++ (readS d.p d.la d.lo (x + 3))))) rfl ?_)
          refine s_op (o_assign (v := (.int .i64 0)) rfl ?_)
          refine s_nil ?_
          refine t_norm (hK82 _ _ ?_)
          refine wp_ret ?_
          refine c_ret2 Tryz.results63  (v := (S ((((([] : Bs) ++ (readS d.p d.la d.lo x)) ++ (readS d.p d.la d.lo (x + 1))) ++ (readS d.p d.la d.lo (x + 2))) ++ (readS d.p d.la d.lo (x + 3))))) rfl (x := (.int .i64 0)) rfl ?_
          have hH89 : Has E w88 [sg, [Hp.one pb (.cells #[(.bool d.p.off), (.bool d.p.armed), (.int .i64 d.p.left), (.int .i64 d.p.uses)] 101 (0, 0))], [Hp.one tb (.cells #[(.pointer (some ⟨db, 0, none⟩)), (.int .i64 n)] 98 (0, 0))], R] := ((((hH87.front 4 rfl).front 4 rfl).front 4 rfl).front 4 rfl).first 4 rfl
          exact ⟨by rw [hs20_, hs38_, hs56_, hs74_]; unfold pgB; simp only [List.nil_append, List.append_assoc], hH89⟩
end Go.Q
namespace Go.Q
section
variable {H : Type} {enc : TypeId × Value → H} {P : Program} {w : World} {t e : TypeId} {cs : List Value}
/-- These cells read as a value of the type. -/
def Rd (enc : TypeId × Value → H) (P : Program) (w : World) (t : TypeId) (cs : List Value) : Prop := ∃ fuel x, DataW.trod enc P w 0 (fun _ => true) true fuel t cs = some x
theorem rd_of {v : Value} {d : DataW H} {ps : List MemPlace} (h : DataW.Trod enc P w 0 (fun _ => true) true t v d ps) : Rd enc P w t v.cells.toList := ⟨h.choose, _, h.choose_spec⟩
theorem rd_int {k : IntKind} (ht : P.underlying t = some (.int k)) (h : Rd enc P w t cs) : ∃ n, cs = [.int k n] ∧ (Lit.int k n).wf = true := by
  obtain ⟨f, x, h⟩ := h
  obtain ⟨n, h1, _, h2⟩ := DataW.trod_int ht h
  exact ⟨n, h1, h2⟩
theorem rd_i64 (ht : P.underlying t = some (.int .i64)) (h : Rd enc P w t cs) : ∃ n, cs = [iV n] ∧ (-9223372036854775808 : Int) ≤ n ∧ n ≤ 9223372036854775807 := by
  obtain ⟨n, h1, h2⟩ := rd_int ht h
  exact ⟨n, h1, wf_i64 h2⟩
theorem rd_string (ht : P.underlying t = some .string) (h : Rd enc P w t cs) : ∃ l : List UInt8, cs = [S l] ∧ l.length ≤ 9223372036854775807 := by
  obtain ⟨f, x, h⟩ := h
  obtain ⟨s, h1, _, h2⟩ := DataW.trod_string ht h
  exact ⟨s.data.toList, by rw [h1, S_of], by rw [show maxLen = 9223372036854775807 from rfl] at h2; exact h2⟩
theorem rd_struct {fs : Array Field} (ht : P.underlying t = some (.struct fs)) (h : Rd enc P w t cs) :
    cs.length = P.cellsOf t ∧ ∀ (i : Nat) (f : Field), fs[i]? = some f → Rd enc P w f.type ((cs.drop f.offset).take (P.cellsOf f.type)) := by
  obtain ⟨f, x, h⟩ := h
  obtain ⟨xs, n, _, _, h1, h2, h3⟩ := DataW.trod_struct ht h
  refine ⟨h1, fun i f hf => ?_⟩
  have hi : i < xs.length := by rw [h2]; exact (Array.getElem?_eq_some_iff.1 hf).1
  exact ⟨n, xs[i], by rw [h3 i f hf, List.getElem?_eq_getElem hi]⟩
theorem rd_field {fs : Array Field} {i k : Nat} {f : Field} {T : TypeId} {ds : List Value} (hf : ∀ (i : Nat) (f : Field), fs[i]? = some f → Rd enc P w f.type ((cs.drop f.offset).take (P.cellsOf f.type)))
    (h : fs[i]? = some f) (hT : f.type = T) (hc : P.cellsOf T = k) (hd : (cs.drop f.offset).take k = ds) : Rd enc P w T ds := by
  have g := hf i f h
  rw [hT, hc, hd] at g
  exact g
theorem rd_slice (ht : P.underlying t = some (.slice e)) (h : Rd enc P w t cs) :
    cs = [.slice none 0 0] ∨ ∃ a len cap, cs = [.slice (some a) len cap] ∧ len ≤ cap ∧ cap ≤ 9223372036854775807 ∧
      ∀ i, i < len → ∃ r : List Value, r.length = P.cellsOf e ∧ Rd enc P w e r ∧ ∀ j, j < P.cellsOf e → w.cell? (a.add (i * P.cellsOf e + j)) = r[j]? := by
  obtain ⟨f, x, h⟩ := h
  rcases DataW.trod_slice ht h with ⟨h, _⟩ | ⟨a, len, cap, elems, rest, n, _, h1, _, _, h2, h3, h4, h5, _⟩
  · exact .inl h
  · refine .inr ⟨a, len, cap, h1, h2, by simpa [maxLen] using h3, fun i hi => ?_⟩
    have hb := h5 i hi
    rw [List.getElem?_eq_getElem (by omega)] at hb
    obtain ⟨r, hr, hd⟩ := Option.bind_eq_some_iff.1 hb
    obtain ⟨_, g1, g2⟩ := World.cells?_some hr
    refine ⟨r, g1, ⟨n, _, hd⟩, fun j hj => ?_⟩
    rw [← g2 j hj, Addr.add_add]
/-- A row, by how its elements read. -/
theorem rd_rows {α : Type} {f : α → List Value} {Good : α → Prop} {sz : Nat} (ht : P.underlying t = some (.slice e)) (hc : P.cellsOf e = sz) (h0 : 0 < sz) (hf : ∀ a, (f a).length = sz)
    (each : ∀ r, Rd enc P w e r → ∃ a, r = f a ∧ Good a) (h : Rd enc P w t cs) : ∃ (v : Value) (l : List α), cs = [v] ∧ Sl [Hp.of w] sz v l.length (l.flatMap f) ∧ ∀ a ∈ l, Good a := by
  subst hc
  rcases rd_slice ht h with rfl | ⟨a, len, cap, rfl, h1, h2, h3⟩
  · exact ⟨_, [], rfl, ⟨none, 0, rfl, Nat.le_refl _, by omega, by simp, fun g => by simp at g⟩, fun a ha => by cases ha⟩
  · have key : ∀ k, k ≤ len → ∃ l : List α, l.length = k ∧ (∀ a ∈ l, Good a) ∧ ∀ i v, (l.flatMap f)[i]? = some v → w.cell? (a.add i) = some v := by
      intro k
      induction k with
      | zero => intro _; exact ⟨[], rfl, fun a ha => (by cases ha), fun i v hv => by simp at hv⟩
      | succ k ih =>
        intro hk
        obtain ⟨l, hl, hg, hcell⟩ := ih (by omega)
        obtain ⟨r, hr, hd, hrc⟩ := h3 k (by omega)
        obtain ⟨y, rfl, hy⟩ := each r hd
        refine ⟨l ++ [y], by simp [hl], fun a ha => ?_, fun i v hv => ?_⟩
        · rcases List.mem_append.1 ha with g | g
          · exact hg a g
          · rw [List.mem_singleton.1 g]; exact hy
        · rw [List.flatMap_append, List.flatMap_cons, List.flatMap_nil, List.append_nil] at hv
          have hlen := flat_len hf l
          rcases Nat.lt_or_ge i (l.flatMap f).length with g | g
          · rw [List.getElem?_append_left g] at hv; exact hcell i v hv
          · rw [List.getElem?_append_right g] at hv
            have hj : i - (l.flatMap f).length < P.cellsOf e := by rw [← hr]; exact (List.getElem?_eq_some_iff.1 hv).1
            have := hrc (i - (l.flatMap f).length) hj
            rw [hv] at this
            rw [← this]; congr 2
            rw [hlen, hl] at g hj ⊢; omega
    obtain ⟨l, hl, hg, hcell⟩ := key len (Nat.le_refl _)
    refine ⟨_, l, rfl, ⟨some a, cap, by rw [hl], by omega, h2, flat_len hf l, fun g => ?_⟩, hg⟩
    obtain ⟨b, off, rfl, hc⟩ := cells_row (w := w) (x := a) (vs := l.flatMap f) (by rw [flat_len hf l]; exact Nat.mul_pos g h0) hcell
    exact ⟨b, off, rfl, hc⟩
/-- a value of a type of one cell is its cell -/
theorem val_one {r : Reach} {b0 : Nat} {v u : Value} (hn : match P.underlying t with | some (.struct _) => False | some (.array _ _) => False | _ => True) (hval : Value.okWide P w r b0 t v) (h : v.cells.toList = [u]) : v = u := by
  cases v with
  | agg c =>
    unfold Value.okWide at hval
    cases hu : P.underlying t with
    | none => rw [hu] at hval; simp [Cell.okWide, Cell.ok, hu] at hval
    | some d => rw [hu] at hn hval; cases d <;> first | exact hn.elim | (simp [Cell.okWide, Cell.ok, hu] at hval)
  | _ => simpa [Value.cells] using h
end
end Go.Q
namespace Go.Q
section
variable {H : Type} {enc : TypeId × Value → H} {P : Program} {w : World} {t e : TypeId} {cs : List Value}
/-- These cells read as a value of the type, and each text and row in it is within the reach. -/
def RdS (enc : TypeId × Value → H) (P : Program) (w : World) (t : TypeId) (cs : List Value) : Prop := ∃ fuel x, DataW.trod enc P w 0 (fun _ => true) true fuel t cs = some x ∧ ∀ n ∈ DataW.weights P t x.1, n ≤ reachBytes
theorem RdS.rd (h : RdS enc P w t cs) : Rd enc P w t cs := let ⟨f, x, h, _⟩ := h; ⟨f, x, h⟩
end
end Go.Q
namespace Go.Q
structure DAct where
  kind : Int
  n : Int
  other : Bool
  dv : Value
  data : List Bs
  kv : Value
  keep : List Int
/-- An act whose rows read. -/
def DaOk (R : List Hp) (a : DAct) : Prop := Sl R 1 a.dv a.data.length (a.data.map sV) ∧ Ints R a.kv a.keep ∧ (∀ t ∈ a.data, t.length ≤ 140737488355328) ∧ -9223372036854775808 ≤ a.n ∧ a.n ≤ 9223372036854775807
theorem DaOk.mono {R R' : List Hp} {a : DAct} (h : DaOk R a) (hs : R ⊆ R') : DaOk R' a := ⟨h.1.mono hs, h.2.1.mono hs, h.2.2⟩
end Go.Q
namespace Go.Q
structure AAct where
  kind : Int
  at_ : Int
  size : Int
  dv : Value
  data : List Bs
  kv : Value
  keep : List Int
def AaOk (R : List Hp) (a : AAct) : Prop := Sl R 1 a.dv a.data.length (a.data.map sV) ∧ Ints R a.kv a.keep ∧ (∀ t ∈ a.data, t.length ≤ 140737488355328)
theorem AaOk.mono {R R' : List Hp} {a : AAct} (h : AaOk R a) (hs : R ⊆ R') : AaOk R' a := ⟨h.1.mono hs, h.2.1.mono hs, h.2.2⟩
end Go.Q
namespace Go.Q
open Go.Proofs Go.Shelf
set_option maxRecDepth 100000
def trl_ren : Go.Shelf.Ren := ⟨fun | 160 => 105 | 232 => 129 | 231 => 128 | 227 => 130 | 234 => 132 | 233 => 131 | 236 => 134 | 235 => 133 | 228 => 156 | 271 => 159 | 151 => 158 | 197 => 157 | 120 => 174 | 152 => 173 | 260 => 172 | 137 => 180 | 119 => 181 | 224 => 182 | 225 => 183 | 217 => 186 | 266 => 187 | n => n, fun | 9 => 9 | 4 => 4 | 3 => 3 | 5 => 5 | 117 => 176 | 116 => 175 | 0 => 0 | 124 => 179 | 21 => 21 | 105 => 198 | 46 => 52 | 119 => 217 | 139 => 220 | 138 => 219 | n => n, fun | 3 => 2 | 4 => 3 | n => n⟩
theorem trl : Go.Proofs.Lays.n160 Tryz.prog trl_ren := {
  mixed := by kernel_rfl
  f119 := Tryz.func181.trans (congrArg some (by kernel_rfl))
  f120 := Tryz.func174.trans (congrArg some (by kernel_rfl))
  f137 := Tryz.func180.trans (congrArg some (by kernel_rfl))
  f151 := Tryz.func158.trans (congrArg some (by kernel_rfl))
  f152 := Tryz.func173.trans (congrArg some (by kernel_rfl))
  f160 := Tryz.func105.trans (congrArg some (by kernel_rfl))
  f197 := Tryz.func157.trans (congrArg some (by kernel_rfl))
  f217 := Tryz.func186.trans (congrArg some (by kernel_rfl))
  f224 := Tryz.func182.trans (congrArg some (by kernel_rfl))
  f225 := Tryz.func183.trans (congrArg some (by kernel_rfl))
  f227 := Tryz.func130.trans (congrArg some (by kernel_rfl))
  f228 := Tryz.func156.trans (congrArg some (by kernel_rfl))
  f231 := Tryz.func128.trans (congrArg some (by kernel_rfl))
  f232 := Tryz.func129.trans (congrArg some (by kernel_rfl))
  f233 := Tryz.func131.trans (congrArg some (by kernel_rfl))
  f234 := Tryz.func132.trans (congrArg some (by kernel_rfl))
  f235 := Tryz.func133.trans (congrArg some (by kernel_rfl))
  f236 := Tryz.func134.trans (congrArg some (by kernel_rfl))
  f260 := Tryz.func172.trans (congrArg some (by kernel_rfl))
  f266 := Tryz.func187.trans (congrArg some (by kernel_rfl))
  f271 := Tryz.func159.trans (congrArg some (by kernel_rfl))
  t0 := Tryz.underlying0
  a0 := Tryz.isAgg0
  z0 := Tryz.sizeOf0
  v0 := Tryz.zeroValue0
  t3 := Tryz.underlying3
  a3 := Tryz.isAgg3
  z3 := Tryz.sizeOf3
  v3 := Tryz.zeroValue3
  t4 := Tryz.underlying4
  a4 := Tryz.isAgg4
  z4 := Tryz.sizeOf4
  v4 := Tryz.zeroValue4
  t5 := Tryz.underlying5
  a5 := Tryz.isAgg5
  z5 := Tryz.sizeOf5
  v5 := Tryz.zeroValue5
  t9 := Tryz.underlying9
  a9 := Tryz.isAgg9
  z9 := Tryz.sizeOf9
  v9 := Tryz.zeroValue9
  t21 := Tryz.underlying21
  a21 := Tryz.isAgg21
  z21 := Tryz.sizeOf21
  v21 := Tryz.zeroValue21
  t46 := Tryz.underlying52
  a46 := Tryz.isAgg52
  z46 := Tryz.sizeOf52
  v46 := Tryz.zeroValue52
  t105 := Tryz.underlying198
  a105 := Tryz.isAgg198
  z105 := Tryz.sizeOf198
  v105 := Tryz.zeroValue198
  t116 := Tryz.underlying175
  a116 := Tryz.isAgg175
  z116 := Tryz.sizeOf175
  t117 := Tryz.underlying176
  a117 := Tryz.isAgg176
  z117 := Tryz.sizeOf176
  v117 := Tryz.zeroValue176
  t119 := Tryz.underlying217
  a119 := Tryz.isAgg217
  z119 := Tryz.sizeOf217
  t124 := Tryz.underlying179
  a124 := Tryz.isAgg179
  z124 := Tryz.sizeOf179
  v124 := Tryz.zeroValue179
  t138 := Tryz.underlying219
  a138 := Tryz.isAgg219
  z138 := Tryz.sizeOf219
  v138 := Tryz.zeroValue219
  t139 := Tryz.underlying220
  a139 := Tryz.isAgg220
  z139 := Tryz.sizeOf220
  v139 := Tryz.zeroValue220
  g3 := by kernel_rfl
  g4 := by kernel_rfl }

theorem strim_c {E w : World} {R : List Hp} (hH : Has E w [R]) (s : Bs) (hs : s.length ≤ 1000000) : Calls Tryz.prog 105 #[S s, S [0]] w fun e w' => e = .returned (S (Lib.trimB s 0)) ∧ Has E w' [R] := by
  refine (Any.strings_Trim_one trl ⟨s.toArray⟩ 0 (by decide) w (by simp only [ByteArray.size, List.size_toArray]; omega)).mono fun e w' h => ?_
  obtain ⟨h1, h2⟩ := h
  refine ⟨by rw [h1]; rfl, ?_⟩
  rcases h2 with h2 | h2
  · rw [h2]; exact hH
  · rw [h2]; exact Has0.drew hH _
theorem dropZ {s : Bs} : s.dropWhile (· == 0) = [] ↔ ∀ b ∈ s, b = 0 := by
  induction s with
  | nil => simp
  | cons x t ih =>
    rw [List.dropWhile_cons]
    by_cases h : x = 0
    · rw [if_pos (by simpa using h), ih]; simp [h]
    · rw [if_neg (by simpa using h)]; simp [h]
theorem trim_zero {s : Bs} : Lib.trimB s 0 = [] ↔ s = List.replicate s.length 0 := by
  unfold Lib.trimB Lib.trimLeftB Lib.trimRightB
  rw [dropZ, List.eq_replicate_iff]
  constructor
  · intro h
    refine ⟨rfl, ?_⟩
    have h1 : ∀ b ∈ s.reverse.dropWhile (· == 0), b = 0 := fun b hb => h b (List.mem_reverse.2 hb)
    have h2 : s.reverse.dropWhile (· == 0) = [] := by
      cases e : s.reverse.dropWhile (· == 0) with
      | nil => rfl
      | cons x t =>
        have hx := h1 x (by rw [e]; exact List.mem_cons_self ..)
        have hn := List.head?_dropWhile_not (fun b : UInt8 => b == 0) s.reverse
        rw [e] at hn
        simp [hx] at hn
    intro b hb
    exact dropZ.1 h2 b (List.mem_reverse.2 hb)
  · rintro ⟨_, h⟩ b hb
    have := (List.dropWhile_sublist _).subset (List.mem_reverse.1 hb)
    exact h b (List.mem_reverse.1 this)
end Go.Q
namespace Go.Q
open Go.Proofs
set_option linter.unusedVariables false
set_option maxRecDepth 100000
attribute [local irreducible] wpList OK Code.wp
set_option maxHeartbeats 4000000 in
theorem tblank_c {E w : World} {R : List Hp} (hH : Has E w [R]) (s : Bs) (hs : s.length ≤ 1000000) :
    Calls Tryz.prog 65 #[(S s)] w fun e w' => e = .returned (.bool (decide (s = zer s.length))) ∧ Has E w' [R] := by
  refine c_enter (args := [(S s)]) Tryz.func65 rfl Tryz.ntmps65 (by simp) ?_
  refine wp_seq_k fun K1 hK1 => ?_
  refine c_region ?_
  refine s_op (o_assign (v := (.bool false)) rfl ?_)
  refine s_nil ?_
  refine t_norm (hK1 _ _ ?_)
  refine wp_seq_k fun K2 hK2 => ?_
  refine c_region ?_
  refine s_op (o_move (v := (S s)) rfl ?_)
  refine s_op (o_callf (vs := #[(S s), (S [0])]) ca105 rfl (args2 rfl rfl) (strim_c hH.all s (by omega)) ?_)
  rintro _ w5 ⟨rfl, hX3⟩
  refine ⟨_, rfl, ?_⟩
  have hH4 := hX3.of_all
  refine s_op (o_seql (a := (Lib.trimB s 0)) (b := ([] : List UInt8)) rfl rfl ?_)
  refine s_op (o_assign (v := (.bool (decide ((Lib.trimB s 0) = ([] : List UInt8))))) rfl ?_)
  refine s_nil ?_
  refine t_norm (hK2 _ _ ?_)
  refine wp_ret ?_
  refine c_ret1 Tryz.results65  (v := (.bool (decide ((Lib.trimB s 0) = ([] : List UInt8))))) rfl ?_
  exact ⟨by rw [show decide (s = zer s.length) = decide ((Lib.trimB s 0) = ([] : List UInt8)) from decide_eq_decide.2 trim_zero.symm], hH4⟩
set_option maxHeartbeats 4000000 in
theorem tnoted_on {E w : World} {R sg : List Hp} {pb db tb : Nat} {d : Dv} {n : Int} (hH : Has E w [sg, [Hp.one pb (.cells #[(.bool d.p.off), (.bool d.p.armed), (.int .i64 d.p.left), (.int .i64 d.p.uses)] 101 (0, 0))], [Hp.one tb (.cells #[(.pointer (some ⟨db, 0, none⟩)), (.int .i64 n)] 98 (0, 0))], R]) (hd : DevAt pb sg db d.la d.lo) (hlo : d.lo = []) (hon : d.p.off = false) (h64 : Full64 d.la) (hln : 1 ≤ d.la.length) :
    Calls Tryz.prog 102 #[(.pointer (some ⟨tb, 0, none⟩))] w fun e w' => e = .returned (.tuple #[.int .i64 (notedS (sec d.la 0) n).1, .int .i64 (notedS (sec d.la 0) n).2]) ∧ Has E w' [sg, [Hp.one pb (.cells #[(.bool d.p.off), (.bool d.p.armed), (.int .i64 d.p.left), (.int .i64 d.p.uses)] 101 (0, 0))], [Hp.one tb (.cells #[(.pointer (some ⟨db, 0, none⟩)), (.int .i64 n)] 98 (0, 0))], R] := by
  refine c_enter (args := [(.pointer (some ⟨tb, 0, none⟩))]) Tryz.func102 rfl Tryz.ntmps102 (by simp) ?_
  refine wp_seq_k fun K1 hK1 => ?_
  refine c_region ?_
  refine s_op (o_assign (v := (.int .i64 0)) rfl ?_)
  refine s_op (o_assign (v := (.int .i64 0)) rfl ?_)
  refine s_nil ?_
  refine t_norm (hK1 _ _ ?_)
  refine wp_seq_k fun K2 hK2 => ?_
  refine c_region ?_
  refine s_op (o_move (v := (.pointer (some ⟨tb, 0, none⟩))) rfl ?_)
  refine s_op (o_nilCheck rfl ?_)
  refine s_op (o_fieldAddr (k := 0) (fun _ => by kernel_rfl) rfl ?_)
  refine s_op (o_load1 (v := (.pointer (some ⟨db, 0, none⟩))) Tryz.underlying29 rfl rfl hH (seg_sub 2 rfl) (CellsAt.one rfl) ?_)
  refine s_op (o_callf (vs := #[(.pointer (some ⟨db, 0, none⟩)), (.int .i64 0)]) ca32 rfl (args2 rfl rfl) (read_d (p := d.p) (la := d.la) (lo := d.lo) ((hH.front 1 rfl).front 1 rfl).all2 hd 0) ?_)
  rintro _ w5 ⟨rfl, hX3⟩
  refine ⟨_, rfl, ?_⟩
  have hH4 : Has E w5 [sg, [Hp.one pb (.cells #[(.bool d.p.off), (.bool d.p.armed), (.int .i64 d.p.left), (.int .i64 d.p.uses)] 101 (0, 0))], [Hp.one tb (.cells #[(.pointer (some ⟨db, 0, none⟩)), (.int .i64 n)] 98 (0, 0))], R] := hX3.of_all2
  refine s_op (o_move (v := (.tuple #[(S (readS d.p d.la d.lo 0)), (.int .i64 (readE d.p d.la 0))])) rfl ?_)
  refine s_op (o_extract (v := (S (readS d.p d.la d.lo 0))) rfl rfl ?_)
  refine s_op (o_extract (v := (.int .i64 (readE d.p d.la 0))) rfl rfl ?_)
  refine s_op (o_assign (v := (S (readS d.p d.la d.lo 0))) rfl ?_)
  refine s_op (o_assign (v := (.int .i64 (readE d.p d.la 0))) rfl ?_)
  refine s_nil ?_
  refine t_norm (hK2 _ _ ?_)
  refine wp_seq_k fun K6 hK6 => ?_
  refine wp_block ?_
  refine wp_seq_k fun K7 hK7 => ?_
  refine c_region ?_
  refine s_op (o_move (v := (.int .i64 (readE d.p d.la 0))) rfl ?_)
  refine s_op (o_neq (a := readE d.p d.la 0) (b := 0) rfl rfl ?_)
  refine s_op (o_assign (v := (.bool (decide (readE d.p d.la 0 ≠ 0)))) rfl ?_)
  refine s_nil ?_
  refine t_norm (hK7 _ _ ?_)
  refine c_cond rfl (fun h8 => ?_) (fun h8 => ?_)
  · -- readE d.p d.la 0 ≠ 0
    obtain ⟨hs9_, he9_⟩ := rd_sec (d := d) (n := 0) hlo hon ⟨by omega, by omega⟩
    have hl9_ : (readS d.p d.la d.lo 0).length = 64 := by rw [hs9_]; exact sec_len h64 ⟨by omega, by omega⟩
    exact absurd he9_ h8
  · -- not: readE d.p d.la 0 ≠ 0
    obtain ⟨hs10_, he10_⟩ := rd_sec (d := d) (n := 0) hlo hon ⟨by omega, by omega⟩
    have hl10_ : (readS d.p d.la d.lo 0).length = 64 := by rw [hs10_]; exact sec_len h64 ⟨by omega, by omega⟩
    refine wp_seq_k fun K11 hK11 => ?_
    refine c_region ?_
    refine s_op (o_move (v := (S (readS d.p d.la d.lo 0))) rfl ?_)
    refine s_op (o_callf (vs := #[(S (readS d.p d.la d.lo 0))]) ca65 rfl (args1 rfl) (tblank_c hH4.all (readS d.p d.la d.lo 0) (by first | omega | (simp only [List.length_drop]; omega))) ?_)
    rintro _ w14 ⟨rfl, hX12⟩
    refine ⟨_, rfl, ?_⟩
    have hH13 := hX12.of_all
    refine s_op (o_assign (v := (.bool (decide ((readS d.p d.la d.lo 0) = zer (readS d.p d.la d.lo 0).length)))) rfl ?_)
    refine s_nil ?_
    refine t_norm (hK11 _ _ ?_)
    refine c_cond rfl (fun h15 => ?_) (fun h15 => ?_)
    · -- (readS d.p d.la d.lo 0) = zer (readS d.p d.la d.lo 0).length
      refine wp_seq_k fun K16 hK16 => ?_
      refine c_region ?_
      refine s_op (o_assign (v := (.int .i64 (-1))) rfl ?_)
      refine s_op (o_assign (v := (.int .i64 0)) rfl ?_)
      refine s_nil ?_
      refine t_norm (hK16 _ _ ?_)
      refine wp_ret ?_
      refine b_ret (t_ret (c_ret2 Tryz.results102  (v := (.int .i64 (-1))) rfl (x := (.int .i64 0)) rfl ?_))
      have hE_ : notedS (readS d.p d.la d.lo 0) n = (-1, 0) := nt_blank h15 hl10_
      rw [hs10_] at hE_
      exact ⟨by rw [hE_], hH13⟩
    · -- not: (readS d.p d.la d.lo 0) = zer (readS d.p d.la d.lo 0).length
      refine wp_seq_k fun K17 hK17 => ?_
      refine Rest.region mixed (by kernel_rfl) ?_
      have hH18 : Has E { w14 with drawn := w14.drawn + 1 } [sg, [Hp.one pb (.cells #[(.bool d.p.off), (.bool d.p.armed), (.int .i64 d.p.left), (.int .i64 d.p.uses)] 101 (0, 0))], [Hp.one tb (.cells #[(.pointer (some ⟨db, 0, none⟩)), (.int .i64 n)] 98 (0, 0))], R] := Has0.drew hH13 _
      refine Rest.phaseA (fun w_ => Has E w_ [[Hp.one tb (.cells #[(.pointer (some ⟨db, 0, none⟩)), (.int .i64 n)] 98 (0, 0))]]) 0 7 7 rfl (by decide) (by kernel_rfl) ?_
      refine a_op 0 rfl (by kernel_rfl) (fun w_ h_ => o_move (v := (S (readS d.p d.la d.lo 0))) rfl ⟨rfl, rfl⟩) ?_
      obtain ⟨c19, hx20⟩ : ∃ x_, (readS d.p d.la d.lo 0)[((0 : Int)).toNat]? = some x_ := get_some (by omega)
      have c19_lt := c19.toNat_lt
      refine a_op 1 rfl (by kernel_rfl) (fun w_ h_ => o_sidx Tryz.underlying9 rfl rfl (by omega) hx20 ⟨rfl, rfl⟩) ?_
      refine a_op 2 rfl (by kernel_rfl) (fun w_ h_ => o_conv Tryz.underlying5 Tryz.underlying3 rfl (w_u8 _) ⟨rfl, rfl⟩) ?_
      refine a_op 3 rfl (by kernel_rfl) (fun w_ h_ => o_move (v := (.pointer (some ⟨tb, 0, none⟩))) rfl ⟨rfl, rfl⟩) ?_
      refine a_op 4 rfl (by kernel_rfl) (fun w_ h_ => o_nilCheck rfl ⟨rfl, rfl⟩) ?_
      refine a_op 5 rfl (by kernel_rfl) (fun w_ h_ => o_fieldAddr (k := 1) (fun _ => by kernel_rfl) rfl ⟨rfl, rfl⟩) ?_
      refine a_op 6 rfl (by kernel_rfl) (fun w_ h_ => o_load1 (v := (.int .i64 n)) Tryz.underlying3 rfl rfl h_ (seg_sub 0 rfl) (CellsAt.one rfl) ⟨rfl, rfl⟩) ?_
      have hH21 : Has E { w14 with drawn := w14.drawn + 1 } [[Hp.one tb (.cells #[(.pointer (some ⟨db, 0, none⟩)), (.int .i64 n)] 98 (0, 0))]] := (hH18.front 2 rfl).first 1 rfl
      refine a_done (by kernel_rfl) hH21 ?_
      refine r_op 7 rfl (by kernel_rfl) (o_gtr (a := (c19.toNat : Int)) (b := n) rfl rfl ?_)
      refine r_op 8 rfl (by kernel_rfl) (o_move (v := (.bool (decide (n < (c19.toNat : Int))))) rfl ?_)
      by_cases h22 : n < (c19.toNat : Int)
      · -- n < (c19.toNat : Int)
        refine r_off (b' := true) 9 rfl (by kernel_rfl) 30 rfl (congrArg Value.bool (decide_eq_true h22)) rfl ?_
        refine r_off (b' := true) 10 rfl (by kernel_rfl) 30 rfl (congrArg Value.bool (decide_eq_true h22)) rfl ?_
        refine r_off (b' := true) 11 rfl (by kernel_rfl) 30 rfl (congrArg Value.bool (decide_eq_true h22)) rfl ?_
        refine r_op 12 rfl (by kernel_rfl) (o_pick_t (u := (.bool true)) ((rfl : _ = _).trans (congrArg Value.bool (decide_eq_true h22))) rfl ?_)
        refine r_op 13 rfl (by kernel_rfl) (o_move (v := (.bool true)) rfl ?_)
        refine r_off (b' := true) 14 rfl (by kernel_rfl) 35 rfl rfl rfl ?_
        refine r_off (b' := true) 15 rfl (by kernel_rfl) 35 rfl rfl rfl ?_
        refine r_off (b' := true) 16 rfl (by kernel_rfl) 35 rfl rfl rfl ?_
        refine r_off (b' := true) 17 rfl (by kernel_rfl) 35 rfl rfl rfl ?_
        refine r_op 18 rfl (by kernel_rfl) (o_pick_t (u := (.bool true)) rfl rfl ?_)
        refine r_op 19 rfl (by kernel_rfl) (o_assign (v := (.bool true)) rfl ?_)
        refine Rest.done (by kernel_rfl) ?_
        refine t_norm (hK17 _ _ ?_)
        refine c_true rfl rfl ?_
        refine wp_seq_k fun K23 hK23 => ?_
        refine c_region ?_
        refine s_op (o_assign (v := (.int .i64 0)) rfl ?_)
        refine s_op (o_assign (v := (.int .i64 9)) rfl ?_)
        refine s_nil ?_
        refine t_norm (hK23 _ _ ?_)
        refine wp_ret ?_
        refine b_ret (t_ret (c_ret2 Tryz.results102  (v := (.int .i64 0)) rfl (x := (.int .i64 9)) rfl ?_))
        have hE_ : notedS (readS d.p d.la d.lo 0) n = (0, 9) := nt_bad (show (readS d.p d.la d.lo 0)[0]? = some _ from hx20) hl10_ h15 (.inl h22)
        rw [hs10_] at hE_
        exact ⟨by rw [hE_], hH18⟩
      · -- not: n < (c19.toNat : Int)
        refine r_on 9 rfl (by kernel_rfl) 30 rfl (congrArg Value.bool (decide_eq_false h22)) (o_move (v := (S (readS d.p d.la d.lo 0))) rfl ?_)
        refine r_on 10 rfl (by kernel_rfl) 30 rfl (congrArg Value.bool (decide_eq_false h22)) (o_sidx Tryz.underlying9 rfl rfl (by omega) hx20 ?_)
        refine r_on 11 rfl (by kernel_rfl) 30 rfl (congrArg Value.bool (decide_eq_false h22)) (o_eql (a := (c19.toNat : Int)) (b := 0) rfl rfl ?_)
        refine r_op 12 rfl (by kernel_rfl) (o_pick_f (u := (.bool (decide ((c19.toNat : Int) = 0)))) ((rfl : _ = _).trans (congrArg Value.bool (decide_eq_false h22))) rfl ?_)
        refine r_op 13 rfl (by kernel_rfl) (o_move (v := (.bool (decide ((c19.toNat : Int) = 0)))) rfl ?_)
        by_cases h24 : (c19.toNat : Int) = 0
        · -- (c19.toNat : Int) = 0
          refine r_off (b' := true) 14 rfl (by kernel_rfl) 35 rfl (congrArg Value.bool (decide_eq_true h24)) rfl ?_
          refine r_off (b' := true) 15 rfl (by kernel_rfl) 35 rfl (congrArg Value.bool (decide_eq_true h24)) rfl ?_
          refine r_off (b' := true) 16 rfl (by kernel_rfl) 35 rfl (congrArg Value.bool (decide_eq_true h24)) rfl ?_
          refine r_off (b' := true) 17 rfl (by kernel_rfl) 35 rfl (congrArg Value.bool (decide_eq_true h24)) rfl ?_
          refine r_op 18 rfl (by kernel_rfl) (o_pick_t (u := (.bool true)) ((rfl : _ = _).trans (congrArg Value.bool (decide_eq_true h24))) rfl ?_)
          refine r_op 19 rfl (by kernel_rfl) (o_assign (v := (.bool true)) rfl ?_)
          refine Rest.done (by kernel_rfl) ?_
          refine t_norm (hK17 _ _ ?_)
          refine c_true rfl rfl ?_
          refine wp_seq_k fun K25 hK25 => ?_
          refine c_region ?_
          refine s_op (o_assign (v := (.int .i64 0)) rfl ?_)
          refine s_op (o_assign (v := (.int .i64 9)) rfl ?_)
          refine s_nil ?_
          refine t_norm (hK25 _ _ ?_)
          refine wp_ret ?_
          refine b_ret (t_ret (c_ret2 Tryz.results102  (v := (.int .i64 0)) rfl (x := (.int .i64 9)) rfl ?_))
          have hE_ : notedS (readS d.p d.la d.lo 0) n = (0, 9) := nt_bad (show (readS d.p d.la d.lo 0)[0]? = some _ from hx20) hl10_ h15 (.inr (.inl h24))
          rw [hs10_] at hE_
          exact ⟨by rw [hE_], hH18⟩
        · -- not: (c19.toNat : Int) = 0
          refine r_on 14 rfl (by kernel_rfl) 35 rfl (congrArg Value.bool (decide_eq_false h24)) (o_move (v := (S (readS d.p d.la d.lo 0))) rfl ?_)
          refine r_on 15 rfl (by kernel_rfl) 35 rfl (congrArg Value.bool (decide_eq_false h24)) (o_ssl_l Tryz.underlying9 rfl rfl (by omega) (by omega) ?_)
          refine r_on 16 rfl (by kernel_rfl) 35 rfl (congrArg Value.bool (decide_eq_false h24)) (o_callf (vs := #[(S ((readS d.p d.la d.lo 0).drop 1))]) ca65 rfl (args1 rfl) (tblank_c hH18.all ((readS d.p d.la d.lo 0).drop 1) (by first | omega | (simp only [List.length_drop]; omega))) ?_)
          rintro _ w28 ⟨rfl, hX26⟩
          refine ⟨_, rfl, ?_⟩
          have hH27 := hX26.of_all
          refine r_on 17 rfl (by kernel_rfl) 35 rfl (congrArg Value.bool (decide_eq_false h24)) (o_not2 (b := decide ((readS d.p d.la d.lo 0).drop 1 = zer ((readS d.p d.la d.lo 0).drop 1).length)) (b' := decide (¬ ((readS d.p d.la d.lo 0).drop 1 = zer ((readS d.p d.la d.lo 0).drop 1).length))) rfl not_dec ?_)
          refine r_op 18 rfl (by kernel_rfl) (o_pick_f (u := (.bool (decide (¬ ((readS d.p d.la d.lo 0).drop 1 = zer ((readS d.p d.la d.lo 0).drop 1).length))))) ((rfl : _ = _).trans (congrArg Value.bool (decide_eq_false h24))) rfl ?_)
          refine r_op 19 rfl (by kernel_rfl) (o_assign (v := (.bool (decide (¬ ((readS d.p d.la d.lo 0).drop 1 = zer ((readS d.p d.la d.lo 0).drop 1).length))))) rfl ?_)
          refine Rest.done (by kernel_rfl) ?_
          refine t_norm (hK17 _ _ ?_)
          refine c_cond rfl (fun h29 => ?_) (fun h29 => ?_)
          · -- ¬ ((readS d.p d.la d.lo 0).drop 1 = zer ((readS d.p d.la d.lo 0).drop 1).length)
            refine wp_seq_k fun K30 hK30 => ?_
            refine c_region ?_
            refine s_op (o_assign (v := (.int .i64 0)) rfl ?_)
            refine s_op (o_assign (v := (.int .i64 9)) rfl ?_)
            refine s_nil ?_
            refine t_norm (hK30 _ _ ?_)
            refine wp_ret ?_
            refine b_ret (t_ret (c_ret2 Tryz.results102  (v := (.int .i64 0)) rfl (x := (.int .i64 9)) rfl ?_))
            have hE_ : notedS (readS d.p d.la d.lo 0) n = (0, 9) := nt_bad (show (readS d.p d.la d.lo 0)[0]? = some _ from hx20) hl10_ h15 (.inr (.inr (by simpa using h29)))
            rw [hs10_] at hE_
            exact ⟨by rw [hE_], hH27⟩
          · -- not: ¬ ((readS d.p d.la d.lo 0).drop 1 = zer ((readS d.p d.la d.lo 0).drop 1).length)
            refine wp_skip ?_
            refine b_norm ?_
            refine t_norm (hK6 _ _ ?_)
            refine wp_seq_k fun K31 hK31 => ?_
            refine c_region ?_
            refine s_op (o_move (v := (S (readS d.p d.la d.lo 0))) rfl ?_)
            refine s_op (o_sidx Tryz.underlying9 rfl rfl (by omega) hx20 ?_)
            refine s_op (o_conv Tryz.underlying5 Tryz.underlying3 rfl (w_u8 _) ?_)
            refine s_op (o_sub (a := (c19.toNat : Int)) (b := 1) rfl rfl (w64 (by omega) (by omega)) ?_)
            refine s_op (o_assign (v := (.int .i64 ((c19.toNat : Int) - 1))) rfl ?_)
            refine s_op (o_assign (v := (.int .i64 0)) rfl ?_)
            refine s_nil ?_
            refine t_norm (hK31 _ _ ?_)
            refine wp_ret ?_
            refine c_ret2 Tryz.results102  (v := (.int .i64 ((c19.toNat : Int) - 1))) rfl (x := (.int .i64 0)) rfl ?_
            have hE_ : notedS (readS d.p d.la d.lo 0) n = ((c19.toNat : Int) - 1, 0) := nt_ok (show (readS d.p d.la d.lo 0)[0]? = some _ from hx20) hl10_ h15 h22 h24 (by simpa using h29)
            rw [hs10_] at hE_
            exact ⟨by rw [hE_], hH27⟩
end Go.Q
namespace Go.Q
open Go.Proofs
set_option linter.unusedVariables false
set_option maxRecDepth 100000
attribute [local irreducible] wpList OK Code.wp
set_option maxHeartbeats 4000000 in
theorem tmend_on {E w : World} {R sg : List Hp} {pb db tb : Nat} {d : Dv} {n : Int} (hH : Has E w [sg, [Hp.one pb (.cells #[(.bool d.p.off), (.bool d.p.armed), (.int .i64 d.p.left), (.int .i64 d.p.uses)] 101 (0, 0))], [Hp.one tb (.cells #[(.pointer (some ⟨db, 0, none⟩)), (.int .i64 n)] 98 (0, 0))], R]) (hd : DevAt pb sg db d.la d.lo) {k : Nat} (hf : Few d.p k) (hk : k ≤ 850000) (hlo : d.lo = []) (h4 : d.la.length ≤ 4096) (hon : d.p.off = false) (h64 : Full64 d.la) (hg : CellsAt R 1 0 nibV) (hn : 1 ≤ n ∧ n ≤ 64) (hln : 5 + n * 4 ≤ d.la.length) :
    Calls Tryz.prog 59 #[(.pointer (some ⟨tb, 0, none⟩))] w fun e w' => ∃ sg', e = .returned (.int .i64 (mendR d n).1) ∧ DevAt pb sg' db (mendR d n).2.la (mendR d n).2.lo ∧ Has E w' [sg', [Hp.one pb (.cells #[(.bool ((mendR d n).2).p.off), (.bool ((mendR d n).2).p.armed), (.int .i64 ((mendR d n).2).p.left), (.int .i64 ((mendR d n).2).p.uses)] 101 (0, 0))], [Hp.one tb (.cells #[(.pointer (some ⟨db, 0, none⟩)), (.int .i64 n)] 98 (0, 0))], R] := by
  have hBl_ := pgB_len h64 (x := 1) (by decide) (by omega)
  have hnl_ := nt_lt (s := sec d.la 0) hn.1
  refine c_enter (args := [(.pointer (some ⟨tb, 0, none⟩))]) Tryz.func59 rfl Tryz.ntmps59 (by simp) ?_
  refine wp_seq_k fun K1 hK1 => ?_
  refine c_region ?_
  refine s_op (o_assign (v := (.int .i64 0)) rfl ?_)
  refine s_nil ?_
  refine t_norm (hK1 _ _ ?_)
  refine wp_seq_k fun K2 hK2 => ?_
  refine c_region ?_
  refine s_op (o_move (v := (.pointer (some ⟨tb, 0, none⟩))) rfl ?_)
  refine s_op (o_callf (vs := #[(.pointer (some ⟨tb, 0, none⟩))]) ca102 rfl (args1 rfl) (tnoted_on (d := d) (n := n) (((hH.front 2 rfl).front 2 rfl).front 2 rfl).all3 hd hlo hon h64 (by omega)) ?_)
  rintro _ w5 ⟨rfl, hX3⟩
  refine ⟨_, rfl, ?_⟩
  have hH4 : Has E w5 [sg, [Hp.one pb (.cells #[(.bool d.p.off), (.bool d.p.armed), (.int .i64 d.p.left), (.int .i64 d.p.uses)] 101 (0, 0))], [Hp.one tb (.cells #[(.pointer (some ⟨db, 0, none⟩)), (.int .i64 n)] 98 (0, 0))], R] := hX3.of_all3
  refine s_op (o_move (v := (.tuple #[(.int .i64 ((notedS (sec d.la 0) n).1)), (.int .i64 ((notedS (sec d.la 0) n).2))])) rfl ?_)
  refine s_op (o_extract (v := (.int .i64 ((notedS (sec d.la 0) n).1))) rfl rfl ?_)
  refine s_op (o_extract (v := (.int .i64 ((notedS (sec d.la 0) n).2))) rfl rfl ?_)
  refine s_op (o_assign (v := (.int .i64 ((notedS (sec d.la 0) n).1))) rfl ?_)
  refine s_op (o_assign (v := (.int .i64 ((notedS (sec d.la 0) n).2))) rfl ?_)
  refine s_nil ?_
  refine t_norm (hK2 _ _ ?_)
  refine wp_seq_k fun K6 hK6 => ?_
  refine wp_seq_k fun K7 hK7 => ?_
  refine c_region ?_
  refine s_op (o_move (v := (.int .i64 ((notedS (sec d.la 0) n).2))) rfl ?_)
  refine s_op (o_neq (a := (notedS (sec d.la 0) n).2) (b := 0) rfl rfl ?_)
  refine s_op (o_move (v := (.bool (decide ((notedS (sec d.la 0) n).2 ≠ 0)))) rfl ?_)
  by_cases h8 : (notedS (sec d.la 0) n).2 ≠ 0
  · -- (notedS (sec d.la 0) n).2 ≠ 0
    refine s_off (b' := true) 16 rfl (congrArg Value.bool (decide_eq_true h8)) rfl ?_
    refine s_off (b' := true) 16 rfl (congrArg Value.bool (decide_eq_true h8)) rfl ?_
    refine s_op (o_pick_t (u := (.bool true)) ((rfl : _ = _).trans (congrArg Value.bool (decide_eq_true h8))) rfl ?_)
    refine s_nil ?_
    refine t_norm (hK7 _ _ ?_)
    refine c_true rfl rfl ?_
    refine wp_seq_k fun K9 hK9 => ?_
    refine c_region ?_
    refine s_op (o_move (v := (.int .i64 ((notedS (sec d.la 0) n).2))) rfl ?_)
    refine s_op (o_assign (v := (.int .i64 ((notedS (sec d.la 0) n).2))) rfl ?_)
    refine s_nil ?_
    refine t_norm (hK9 _ _ ?_)
    refine wp_ret ?_
    refine t_ret (c_ret1 Tryz.results59  (v := (.int .i64 ((notedS (sec d.la 0) n).2))) rfl ?_)
    have hE_ : (mendR d n) = ((notedS (sec d.la 0) n).2, d) := mend_e hon h8
    exact ⟨_, by rw [hE_], by rw [hE_]; exact hd, by rw [hE_]; exact hH4⟩
  · -- not: (notedS (sec d.la 0) n).2 ≠ 0
    refine s_on 16 rfl (congrArg Value.bool (decide_eq_false h8)) (o_move (v := (.int .i64 ((notedS (sec d.la 0) n).1))) rfl ?_)
    refine s_on 16 rfl (congrArg Value.bool (decide_eq_false h8)) (o_lss (a := (notedS (sec d.la 0) n).1) (b := 0) rfl rfl ?_)
    refine s_op (o_pick_f (u := (.bool (decide ((notedS (sec d.la 0) n).1 < 0)))) ((rfl : _ = _).trans (congrArg Value.bool (decide_eq_false h8))) rfl ?_)
    refine s_nil ?_
    refine t_norm (hK7 _ _ ?_)
    refine c_cond rfl (fun h10 => ?_) (fun h10 => ?_)
    · -- (notedS (sec d.la 0) n).1 < 0
      refine wp_seq_k fun K11 hK11 => ?_
      refine c_region ?_
      refine s_op (o_move (v := (.int .i64 ((notedS (sec d.la 0) n).2))) rfl ?_)
      refine s_op (o_assign (v := (.int .i64 ((notedS (sec d.la 0) n).2))) rfl ?_)
      refine s_nil ?_
      refine t_norm (hK11 _ _ ?_)
      refine wp_ret ?_
      refine t_ret (c_ret1 Tryz.results59  (v := (.int .i64 ((notedS (sec d.la 0) n).2))) rfl ?_)
      have hE_ : (mendR d n) = ((notedS (sec d.la 0) n).2, d) := mend_none hon (Classical.not_not.1 h8) h10
      exact ⟨_, by rw [hE_], by rw [hE_]; exact hd, by rw [hE_]; exact hH4⟩
    · -- not: (notedS (sec d.la 0) n).1 < 0
      refine wp_skip ?_
      refine t_norm (hK6 _ _ ?_)
      refine wp_seq_k fun K12 hK12 => ?_
      refine c_region ?_
      refine s_op (o_move (v := (.pointer (some ⟨tb, 0, none⟩))) rfl ?_)
      refine s_op (o_callf (vs := #[(.pointer (some ⟨tb, 0, none⟩)), (.int .i64 1)]) ca63 rfl (args2 rfl rfl) (tget_on (d := d) (n := n) (((hH4.front 2 rfl).front 2 rfl).front 2 rfl).all3 hd hlo hon h64 (x := 1) ⟨by omega, by omega⟩ h4) ?_)
      rintro _ w15 ⟨rfl, hX13⟩
      refine ⟨_, rfl, ?_⟩
      have hH14 : Has E w15 [sg, [Hp.one pb (.cells #[(.bool d.p.off), (.bool d.p.armed), (.int .i64 d.p.left), (.int .i64 d.p.uses)] 101 (0, 0))], [Hp.one tb (.cells #[(.pointer (some ⟨db, 0, none⟩)), (.int .i64 n)] 98 (0, 0))], R] := hX13.of_all3
      refine s_op (o_move (v := (.tuple #[(S (pgB d.la 1)), (.int .i64 (0 : Int))])) rfl ?_)
      refine s_op (o_extract (v := (S (pgB d.la 1))) rfl rfl ?_)
      refine s_op (o_extract (v := (.int .i64 (0 : Int))) rfl rfl ?_)
      refine s_op (o_assign (v := (S (pgB d.la 1))) rfl ?_)
      refine s_op (o_assign (v := (.int .i64 (0 : Int))) rfl ?_)
      refine s_nil ?_
      refine t_norm (hK12 _ _ ?_)
      refine wp_seq_k fun K16 hK16 => ?_
      refine wp_seq_k fun K17 hK17 => ?_
      refine c_region ?_
      refine s_op (o_move (v := (.int .i64 (0 : Int))) rfl ?_)
      refine s_op (o_neq (a := (0 : Int)) (b := 0) rfl rfl ?_)
      refine s_nil ?_
      refine t_norm (hK17 _ _ ?_)
      refine c_cond rfl (fun h18 => ?_) (fun h18 => ?_)
      · -- (0 : Int) ≠ 0
        exact absurd rfl h18
      · -- not: (0 : Int) ≠ 0
        refine wp_skip ?_
        refine t_norm (hK16 _ _ ?_)
        refine wp_seq_k fun K19 hK19 => ?_
        refine wp_seq_k fun K20 hK20 => ?_
        refine c_region ?_
        refine s_op (o_move (v := (S (pgB d.la 1))) rfl ?_)
        refine s_op (o_callf (vs := #[(S (pgB d.la 1))]) ca66 rfl (args1 rfl) (pread_c (s := (pgB d.la 1)) hH14.all (hg.mono (seg_sub 3 rfl))) ?_)
        rintro _ w26 ⟨v21, s22, rfl, ho23, hX24⟩
        refine ⟨_, rfl, ?_⟩
        have hH25 : Has E w26 [s22, sg, [Hp.one pb (.cells #[(.bool d.p.off), (.bool d.p.armed), (.int .i64 d.p.left), (.int .i64 d.p.uses)] 101 (0, 0))], [Hp.one tb (.cells #[(.pointer (some ⟨db, 0, none⟩)), (.int .i64 n)] 98 (0, 0))], R] := hX24.of_all1
        refine s_op (o_move (v := (.tuple #[(.agg #[(.int .i64 ((readP (pgB d.la 1)).2.1)), (.int .i64 ((readP (pgB d.la 1)).2.2.1)), v21]), (.bool ((readP (pgB d.la 1)).1))])) rfl ?_)
        refine s_op (o_extract (v := (.agg #[(.int .i64 ((readP (pgB d.la 1)).2.1)), (.int .i64 ((readP (pgB d.la 1)).2.2.1)), v21])) rfl rfl ?_)
        refine s_op (o_extract (v := (.bool ((readP (pgB d.la 1)).1))) rfl rfl ?_)
        refine s_op (o_alloc (cs := #[(.int .i64 0), (.int .i64 0), (.slice none 0 0)]) ti36 rfl hH25 fun b27 w28 hH29 => ?_)
        refine s_eff (o_storeN (vs := [(.int .i64 ((readP (pgB d.la 1)).2.1)), (.int .i64 ((readP (pgB d.la 1)).2.2.1)), v21]) (c' := #[(.int .i64 ((readP (pgB d.la 1)).2.1)), (.int .i64 ((readP (pgB d.la 1)).2.2.1)), v21]) ti36 rfl rfl rfl rfl (by intro u hu; simp only [List.mem_cons, List.not_mem_nil, or_false] at hu; rcases hu with rfl | rfl | rfl <;> first | rfl | exact ho23.one) (by simp) (by kernel_rfl) (hH29.front 0 rfl) fun w30 hH31 => ?_)
        refine s_op (o_assign (v := (.bool ((readP (pgB d.la 1)).1))) rfl ?_)
        refine s_nil ?_
        refine t_norm (hK20 _ _ ?_)
        refine wp_seq_k fun K32 hK32 => ?_
        refine c_region ?_
        refine s_op (o_move (v := (.bool ((readP (pgB d.la 1)).1))) rfl ?_)
        refine s_op (o_not rfl ?_)
        refine s_op (o_move (v := (.bool (!((readP (pgB d.la 1)).1)))) rfl ?_)
        rcases Bool.eq_false_or_eq_true (!((readP (pgB d.la 1)).1)) with h33 | h33
        · -- !((readP (pgB d.la 1)).1)
          have h33_n : ((readP (pgB d.la 1)).1) = false := by simpa using h33
          refine s_off (b' := true) 36 rfl (congrArg Value.bool h33) rfl ?_
          refine s_off (b' := true) 36 rfl (congrArg Value.bool h33) rfl ?_
          refine s_off (b' := true) 36 rfl (congrArg Value.bool h33) rfl ?_
          refine s_off (b' := true) 36 rfl (congrArg Value.bool h33) rfl ?_
          refine s_op (o_pick_t (u := (.bool true)) ((rfl : _ = _).trans (congrArg Value.bool h33)) rfl ?_)
          refine s_nil ?_
          refine t_norm (hK32 _ _ ?_)
          refine c_true rfl rfl ?_
          refine wp_seq_k fun K34 hK34 => ?_
          refine c_region ?_
          refine s_op (o_assign (v := (.int .i64 9)) rfl ?_)
          refine s_nil ?_
          refine t_norm (hK34 _ _ ?_)
          refine wp_ret ?_
          refine t_ret (c_ret1 Tryz.results59  (v := (.int .i64 9)) rfl ?_)
          have hH35 : Has E w30 [sg, [Hp.one pb (.cells #[(.bool d.p.off), (.bool d.p.armed), (.int .i64 d.p.left), (.int .i64 d.p.uses)] 101 (0, 0))], [Hp.one tb (.cells #[(.pointer (some ⟨db, 0, none⟩)), (.int .i64 n)] 98 (0, 0))], R] := ((((hH31.front 5 rfl).front 5 rfl).front 5 rfl).front 5 rfl).first 4 rfl
          have hE_ : (mendR d n) = (9, d) := mend_bad hon (Classical.not_not.1 h8) h10 (fun k => by first | exact absurd k.1 (by simpa using h33) | exact absurd k.1 (by decide) k.2)
          exact ⟨_, by rw [hE_], by rw [hE_]; exact hd, by rw [hE_]; exact hH35⟩
        · -- not: !((readP (pgB d.la 1)).1)
          have h33_n : ((readP (pgB d.la 1)).1) = true := by simpa using h33
          refine s_on 36 rfl (congrArg Value.bool h33) (o_fieldAddr (k := 0) (fun _ => by kernel_rfl) rfl ?_)
          refine s_on 36 rfl (congrArg Value.bool h33) (o_load1 (v := (.int .i64 ((readP (pgB d.la 1)).2.1))) Tryz.underlying3 rfl rfl hH31 (seg_sub 0 rfl) (CellsAt.one rfl) ?_)
          refine s_on 36 rfl (congrArg Value.bool h33) (o_move (v := (.int .i64 ((notedS (sec d.la 0) n).1))) rfl ?_)
          refine s_on 36 rfl (congrArg Value.bool h33) (o_neq (a := (readP (pgB d.la 1)).2.1) (b := (notedS (sec d.la 0) n).1) rfl rfl ?_)
          refine s_op (o_pick_f (u := (.bool (decide ((readP (pgB d.la 1)).2.1 ≠ (notedS (sec d.la 0) n).1)))) ((rfl : _ = _).trans (congrArg Value.bool h33)) rfl ?_)
          refine s_nil ?_
          refine t_norm (hK32 _ _ ?_)
          refine c_cond rfl (fun h36 => ?_) (fun h36 => ?_)
          · -- (readP (pgB d.la 1)).2.1 ≠ (notedS (sec d.la 0) n).1
            refine wp_seq_k fun K37 hK37 => ?_
            refine c_region ?_
            refine s_op (o_assign (v := (.int .i64 9)) rfl ?_)
            refine s_nil ?_
            refine t_norm (hK37 _ _ ?_)
            refine wp_ret ?_
            refine t_ret (c_ret1 Tryz.results59  (v := (.int .i64 9)) rfl ?_)
            have hH38 : Has E w30 [sg, [Hp.one pb (.cells #[(.bool d.p.off), (.bool d.p.armed), (.int .i64 d.p.left), (.int .i64 d.p.uses)] 101 (0, 0))], [Hp.one tb (.cells #[(.pointer (some ⟨db, 0, none⟩)), (.int .i64 n)] 98 (0, 0))], R] := ((((hH31.front 5 rfl).front 5 rfl).front 5 rfl).front 5 rfl).first 4 rfl
            have hE_ : (mendR d n) = (9, d) := mend_bad hon (Classical.not_not.1 h8) h10 (fun k => by first | exact absurd k.1 (by simpa using h33) | exact h36 k.2)
            exact ⟨_, by rw [hE_], by rw [hE_]; exact hd, by rw [hE_]; exact hH38⟩
          · -- not: (readP (pgB d.la 1)).2.1 ≠ (notedS (sec d.la 0) n).1
            refine wp_skip ?_
            refine t_norm (hK19 _ _ ?_)
            refine wp_seq_k fun K39 hK39 => ?_
            refine wp_seq_k fun K40 hK40 => ?_
            refine c_region ?_
            refine s_op (o_move (v := (.pointer (some ⟨tb, 0, none⟩))) rfl ?_)
            refine s_op (o_move (v := (.int .i64 ((notedS (sec d.la 0) n).1))) rfl ?_)
            refine s_op (o_callf (vs := #[(.int .i64 ((notedS (sec d.la 0) n).1))]) ca64 rfl (args1 rfl) (place_c hH31.all (x := (notedS (sec d.la 0) n).1) ⟨by omega, by omega⟩) ?_)
            rintro _ w43 ⟨rfl, hX41⟩
            refine ⟨_, rfl, ?_⟩
            have hH42 := hX41.of_all
            refine s_op (o_move (v := (S (pgB d.la 1))) rfl ?_)
            refine s_op (o_callf (vs := #[(.pointer (some ⟨tb, 0, none⟩)), (.int .i64 (plc ((notedS (sec d.la 0) n).1))), (S (pgB d.la 1))]) ca97 rfl (args3 rfl rfl rfl) (tset_c (d := d) (n := n) (((hH42.front 4 rfl).front 4 rfl).front 4 rfl).all3 hd hf (by omega) (by rw [hlo]; exact LoOk.nil _) h4 (x := plc ((notedS (sec d.la 0) n).1)) (by unfold plc; exact ⟨by omega, by omega⟩) (s := (pgB d.la 1)) hBl_) ?_)
            rintro _ w48 ⟨sg44, rfl, hd45, hX46⟩
            refine ⟨_, rfl, ?_⟩
            have hH47 : Has E w48 [sg44, [Hp.one pb (.cells #[(.bool ((wrsy d (setT (plc ((notedS (sec d.la 0) n).1)) (pgB d.la 1))).2).p.off), (.bool ((wrsy d (setT (plc ((notedS (sec d.la 0) n).1)) (pgB d.la 1))).2).p.armed), (.int .i64 ((wrsy d (setT (plc ((notedS (sec d.la 0) n).1)) (pgB d.la 1))).2).p.left), (.int .i64 ((wrsy d (setT (plc ((notedS (sec d.la 0) n).1)) (pgB d.la 1))).2).p.uses)] 101 (0, 0))], [Hp.one tb (.cells #[(.pointer (some ⟨db, 0, none⟩)), (.int .i64 n)] 98 (0, 0))], [Hp.one b27 (.cells #[(.int .i64 ((readP (pgB d.la 1)).2.1)), (.int .i64 ((readP (pgB d.la 1)).2.2.1)), v21] 36 (0, 0))], s22, R] := hX46.of_all3
            refine s_op (o_assign (v := (.int .i64 ((wrsy d (setT (plc ((notedS (sec d.la 0) n).1)) (pgB d.la 1))).1))) rfl ?_)
            refine s_nil ?_
            refine t_norm (hK40 _ _ ?_)
            refine wp_seq_k fun K49 hK49 => ?_
            refine c_region ?_
            refine s_op (o_move (v := (.int .i64 ((wrsy d (setT (plc ((notedS (sec d.la 0) n).1)) (pgB d.la 1))).1))) rfl ?_)
            refine s_op (o_neq (a := (wrsy d (setT (plc ((notedS (sec d.la 0) n).1)) (pgB d.la 1))).1) (b := 0) rfl rfl ?_)
            refine s_nil ?_
            refine t_norm (hK49 _ _ ?_)
            refine c_cond rfl (fun h50 => ?_) (fun h50 => ?_)
            · -- (wrsy d (setT (plc ((notedS (sec d.la 0) n).1)) (pgB d.la 1))).1 ≠ 0
              refine wp_seq_k fun K51 hK51 => ?_
              refine c_region ?_
              refine s_op (o_move (v := (.int .i64 ((wrsy d (setT (plc ((notedS (sec d.la 0) n).1)) (pgB d.la 1))).1))) rfl ?_)
              refine s_op (o_assign (v := (.int .i64 ((wrsy d (setT (plc ((notedS (sec d.la 0) n).1)) (pgB d.la 1))).1))) rfl ?_)
              refine s_nil ?_
              refine t_norm (hK51 _ _ ?_)
              refine wp_ret ?_
              refine t_ret (c_ret1 Tryz.results59  (v := (.int .i64 ((wrsy d (setT (plc ((notedS (sec d.la 0) n).1)) (pgB d.la 1))).1))) rfl ?_)
              have hH52 : Has E w48 [sg44, [Hp.one pb (.cells #[(.bool ((wrsy d (setT (plc ((notedS (sec d.la 0) n).1)) (pgB d.la 1))).2).p.off), (.bool ((wrsy d (setT (plc ((notedS (sec d.la 0) n).1)) (pgB d.la 1))).2).p.armed), (.int .i64 ((wrsy d (setT (plc ((notedS (sec d.la 0) n).1)) (pgB d.la 1))).2).p.left), (.int .i64 ((wrsy d (setT (plc ((notedS (sec d.la 0) n).1)) (pgB d.la 1))).2).p.uses)] 101 (0, 0))], [Hp.one tb (.cells #[(.pointer (some ⟨db, 0, none⟩)), (.int .i64 n)] 98 (0, 0))], R] := ((((hH47.front 5 rfl).front 3 rfl).front 3 rfl).front 3 rfl).first 4 rfl
              have hE_ : (mendR d n) = ((wrsy d (setT (plc ((notedS (sec d.la 0) n).1)) (pgB d.la 1))).1, (wrsy d (setT (plc ((notedS (sec d.la 0) n).1)) (pgB d.la 1))).2) := by rw [mend_go hon (Classical.not_not.1 h8) h10 ⟨by simpa using h33, (Classical.not_not.1 h36)⟩]; show runs d [setT (plc (notedS (sec d.la 0) n).1) (pgB d.la 1), mrkG []] = _; rw [runs_stop h50]
              exact ⟨_, by rw [hE_], by rw [hE_]; exact hd45, by rw [hE_]; exact hH52⟩
            · -- not: (wrsy d (setT (plc ((notedS (sec d.la 0) n).1)) (pgB d.la 1))).1 ≠ 0
              refine wp_skip ?_
              refine t_norm (hK39 _ _ ?_)
              refine wp_seq_k fun K53 hK53 => ?_
              refine c_region ?_
              refine s_op (o_move (v := (.pointer (some ⟨tb, 0, none⟩))) rfl ?_)
              refine s_op (o_callf (vs := #[(.pointer (some ⟨tb, 0, none⟩)), (.slice none 0 0)]) ca98 rfl (args2 rfl rfl) (tmark_c (d := (wrsy d (setT (plc ((notedS (sec d.la 0) n).1)) (pgB d.la 1))).2) (n := n) (((hH47.front 2 rfl).front 2 rfl).front 2 rfl).all3 hd45 ((few_wrsy hf).mono (show _ ≤ k + 5 from Nat.le_refl _)) (by omega) (by rw [wrsy_zero (Classical.not_not.1 h50)]; exact LoOk.nil _) (by simp only [wrsy_len]; exact h4) (l := ([] : List Int)) (sl_nil 1) (by simp) (by rw [put_nil]; decide)) ?_)
              rintro _ w58 ⟨sg54, rfl, hd55, hX56⟩
              refine ⟨_, rfl, ?_⟩
              have hH57 : Has E w58 [sg54, [Hp.one pb (.cells #[(.bool ((wrsy ((wrsy d (setT (plc ((notedS (sec d.la 0) n).1)) (pgB d.la 1))).2) (mrkG [])).2).p.off), (.bool ((wrsy ((wrsy d (setT (plc ((notedS (sec d.la 0) n).1)) (pgB d.la 1))).2) (mrkG [])).2).p.armed), (.int .i64 ((wrsy ((wrsy d (setT (plc ((notedS (sec d.la 0) n).1)) (pgB d.la 1))).2) (mrkG [])).2).p.left), (.int .i64 ((wrsy ((wrsy d (setT (plc ((notedS (sec d.la 0) n).1)) (pgB d.la 1))).2) (mrkG [])).2).p.uses)] 101 (0, 0))], [Hp.one tb (.cells #[(.pointer (some ⟨db, 0, none⟩)), (.int .i64 n)] 98 (0, 0))], [Hp.one b27 (.cells #[(.int .i64 ((readP (pgB d.la 1)).2.1)), (.int .i64 ((readP (pgB d.la 1)).2.2.1)), v21] 36 (0, 0))], s22, R] := hX56.of_all3
              refine s_op (o_assign (v := (.int .i64 ((wrsy ((wrsy d (setT (plc ((notedS (sec d.la 0) n).1)) (pgB d.la 1))).2) (mrkG [])).1))) rfl ?_)
              refine s_nil ?_
              refine t_norm (hK53 _ _ ?_)
              refine wp_ret ?_
              refine c_ret1 Tryz.results59  (v := (.int .i64 ((wrsy ((wrsy d (setT (plc ((notedS (sec d.la 0) n).1)) (pgB d.la 1))).2) (mrkG [])).1))) rfl ?_
              have hH59 : Has E w58 [sg54, [Hp.one pb (.cells #[(.bool ((wrsy ((wrsy d (setT (plc ((notedS (sec d.la 0) n).1)) (pgB d.la 1))).2) (mrkG [])).2).p.off), (.bool ((wrsy ((wrsy d (setT (plc ((notedS (sec d.la 0) n).1)) (pgB d.la 1))).2) (mrkG [])).2).p.armed), (.int .i64 ((wrsy ((wrsy d (setT (plc ((notedS (sec d.la 0) n).1)) (pgB d.la 1))).2) (mrkG [])).2).p.left), (.int .i64 ((wrsy ((wrsy d (setT (plc ((notedS (sec d.la 0) n).1)) (pgB d.la 1))).2) (mrkG [])).2).p.uses)] 101 (0, 0))], [Hp.one tb (.cells #[(.pointer (some ⟨db, 0, none⟩)), (.int .i64 n)] 98 (0, 0))], R] := ((((hH57.front 5 rfl).front 3 rfl).front 3 rfl).front 3 rfl).first 4 rfl
              have hE_ : (mendR d n) = ((wrsy ((wrsy d (setT (plc ((notedS (sec d.la 0) n).1)) (pgB d.la 1))).2) (mrkG [])).1, (wrsy ((wrsy d (setT (plc ((notedS (sec d.la 0) n).1)) (pgB d.la 1))).2) (mrkG [])).2) := by rw [mend_go hon (Classical.not_not.1 h8) h10 ⟨by simpa using h33, (Classical.not_not.1 h36)⟩]; show runs d [setT (plc (notedS (sec d.la 0) n).1) (pgB d.la 1), mrkG []] = _; rw [runs_go (Classical.not_not.1 h50), runs_last]
              exact ⟨_, by rw [hE_], by rw [hE_]; exact hd55, by rw [hE_]; exact hH59⟩
end Go.Q
namespace Go.Q
open Go.Proofs
set_option linter.unusedVariables false
set_option maxRecDepth 100000
attribute [local irreducible] wpList OK Code.wp
set_option maxHeartbeats 4000000 in
theorem topen_ok {E w : World} {R sg : List Hp} {pb db : Nat} {d : Dv} (hH : Has E w [sg, [Hp.one pb (.cells #[(.bool d.p.off), (.bool d.p.armed), (.int .i64 d.p.left), (.int .i64 d.p.uses)] 101 (0, 0))], R]) (hd : DevAt pb sg db d.la d.lo) {n : Int} {k : Nat} (hf : Few d.p k) (hk : k ≤ 850000) (hlo : d.lo = []) (h4 : d.la.length ≤ 4096) (hn : 1 ≤ n ∧ n ≤ 64) (hln : 5 + n * 4 ≤ d.la.length) (hg : CellsAt R 1 0 nibV) (h64 : Full64 d.la) (hon : d.p.off = false) (hm : (mendR d n).1 = 0) :
    Calls Tryz.prog 21 #[(.pointer (some ⟨db, 0, none⟩)), (.int .i64 n)] w fun e w' => ∃ tb sg', e = .returned (.tuple #[.pointer (some ⟨tb, 0, none⟩), .int .i64 0]) ∧ DevAt pb sg' db (mendR d n).2.la (mendR d n).2.lo ∧ Has E w' [[Hp.one tb (.cells #[(.pointer (some ⟨db, 0, none⟩)), (.int .i64 n)] 98 (0, 0))], sg', [Hp.one pb (.cells #[(.bool ((mendR d n).2).p.off), (.bool ((mendR d n).2).p.armed), (.int .i64 ((mendR d n).2).p.left), (.int .i64 ((mendR d n).2).p.uses)] 101 (0, 0))], R] := by
  refine c_enter (args := [(.pointer (some ⟨db, 0, none⟩)), (.int .i64 n)]) Tryz.func21 rfl Tryz.ntmps21 (by simp) ?_
  refine wp_seq_k fun K1 hK1 => ?_
  refine c_region ?_
  refine s_op (o_assign (v := (.pointer none)) rfl ?_)
  refine s_op (o_assign (v := (.int .i64 0)) rfl ?_)
  refine s_nil ?_
  refine t_norm (hK1 _ _ ?_)
  refine wp_seq_k fun K2 hK2 => ?_
  refine wp_seq_k fun K3 hK3 => ?_
  refine c_region ?_
  refine s_op (o_move (v := (.pointer (some ⟨db, 0, none⟩))) rfl ?_)
  refine s_op (o_move (v := (.int .i64 n)) rfl ?_)
  refine s_op (o_callf (vs := #[(.pointer (some ⟨db, 0, none⟩)), (.int .i64 n)]) ca50 rfl (args2 rfl rfl) (begin_ok (d := d) ((hH.front 1 rfl).front 1 rfl).all2 hd (n := n) h4 hn hln hon) ?_)
  rintro _ w6 ⟨rfl, hX4⟩
  refine ⟨_, rfl, ?_⟩
  have hH5 : Has E w6 [sg, [Hp.one pb (.cells #[(.bool d.p.off), (.bool d.p.armed), (.int .i64 d.p.left), (.int .i64 d.p.uses)] 101 (0, 0))], R] := hX4.of_all2
  refine s_op (o_assign (v := (.int .i64 (0 : Int))) rfl ?_)
  refine s_nil ?_
  refine t_norm (hK3 _ _ ?_)
  refine wp_seq_k fun K7 hK7 => ?_
  refine c_region ?_
  refine s_op (o_move (v := (.int .i64 (0 : Int))) rfl ?_)
  refine s_op (o_neq (a := (0 : Int)) (b := 0) rfl rfl ?_)
  refine s_nil ?_
  refine t_norm (hK7 _ _ ?_)
  refine c_cond rfl (fun h8 => ?_) (fun h8 => ?_)
  · -- (0 : Int) ≠ 0
    exact absurd rfl h8
  · -- not: (0 : Int) ≠ 0
    refine wp_skip ?_
    refine t_norm (hK2 _ _ ?_)
    refine wp_seq_k fun K9 hK9 => ?_
    refine c_region ?_
    refine s_op (o_move (v := (.pointer (some ⟨db, 0, none⟩))) rfl ?_)
    refine s_op (o_move (v := (.int .i64 n)) rfl ?_)
    refine s_op (o_sight (v := (.agg #[(.pointer (some ⟨db, 0, none⟩)), (.int .i64 n)])) (fun _ => by kernel_rfl) ?_)
    refine s_op (o_box (cs := #[(.pointer (some ⟨db, 0, none⟩)), (.int .i64 n)]) rfl rfl hH5 fun b10 w11 hH12 => ?_)
    refine s_op (o_assign (v := (.pointer (some ⟨b10, 0, none⟩))) rfl ?_)
    refine s_nil ?_
    refine t_norm (hK9 _ _ ?_)
    refine wp_seq_k fun K13 hK13 => ?_
    refine wp_seq_k fun K14 hK14 => ?_
    refine c_region ?_
    refine s_op (o_move (v := (.pointer (some ⟨b10, 0, none⟩))) rfl ?_)
    refine s_op (o_callf (vs := #[(.pointer (some ⟨b10, 0, none⟩))]) ca59 rfl (args1 rfl) (tmend_on (d := d) (n := n) ((hH12.front 2 rfl).front 2 rfl).all3 hd hf (by omega) hlo h4 hon h64 (hg.mono (seg_sub 0 rfl)) hn hln) ?_)
    rintro _ w19 ⟨sg15, rfl, hd16, hX17⟩
    refine ⟨_, rfl, ?_⟩
    have hH18 : Has E w19 [sg15, [Hp.one pb (.cells #[(.bool ((mendR d n).2).p.off), (.bool ((mendR d n).2).p.armed), (.int .i64 ((mendR d n).2).p.left), (.int .i64 ((mendR d n).2).p.uses)] 101 (0, 0))], [Hp.one b10 (.cells #[(.pointer (some ⟨db, 0, none⟩)), (.int .i64 n)] 98 (0, 0))], R] := hX17.of_all3
    refine s_op (o_assign (v := (.int .i64 ((mendR d n).1))) rfl ?_)
    refine s_nil ?_
    refine t_norm (hK14 _ _ ?_)
    refine wp_seq_k fun K20 hK20 => ?_
    refine c_region ?_
    refine s_op (o_move (v := (.int .i64 ((mendR d n).1))) rfl ?_)
    refine s_op (o_neq (a := (mendR d n).1) (b := 0) rfl rfl ?_)
    refine s_nil ?_
    refine t_norm (hK20 _ _ ?_)
    refine c_cond rfl (fun h21 => ?_) (fun h21 => ?_)
    · -- (mendR d n).1 ≠ 0
      exact absurd hm h21
    · -- not: (mendR d n).1 ≠ 0
      refine wp_skip ?_
      refine t_norm (hK13 _ _ ?_)
      refine wp_seq_k fun K22 hK22 => ?_
      refine c_region ?_
      refine s_op (o_move (v := (.pointer (some ⟨b10, 0, none⟩))) rfl ?_)
      refine s_op (o_assign (v := (.pointer (some ⟨b10, 0, none⟩))) rfl ?_)
      refine s_op (o_assign (v := (.int .i64 0)) rfl ?_)
      refine s_nil ?_
      refine t_norm (hK22 _ _ ?_)
      refine wp_ret ?_
      refine c_ret2 Tryz.results21  (v := (.pointer (some ⟨b10, 0, none⟩))) rfl (x := (.int .i64 0)) rfl ?_
      have hH23 : Has E w19 [[Hp.one b10 (.cells #[(.pointer (some ⟨db, 0, none⟩)), (.int .i64 n)] 98 (0, 0))], sg15, [Hp.one pb (.cells #[(.bool ((mendR d n).2).p.off), (.bool ((mendR d n).2).p.armed), (.int .i64 ((mendR d n).2).p.left), (.int .i64 ((mendR d n).2).p.uses)] 101 (0, 0))], R] := ((((hH18.front 3 rfl).front 2 rfl).front 2 rfl).front 3 rfl).first 4 rfl
      exact ⟨_, _, rfl, hd16, hH23⟩
end Go.Q
namespace Go.Q
open Go.Proofs
set_option linter.unusedVariables false
set_option maxRecDepth 100000
attribute [local irreducible] wpList OK Code.wp
set_option maxHeartbeats 4000000 in
theorem tpage_on {E w : World} {R sg : List Hp} {pb db tb : Nat} {d : Dv} {n : Int} (hH : Has E w [sg, [Hp.one pb (.cells #[(.bool d.p.off), (.bool d.p.armed), (.int .i64 d.p.left), (.int .i64 d.p.uses)] 101 (0, 0))], [Hp.one tb (.cells #[(.pointer (some ⟨db, 0, none⟩)), (.int .i64 n)] 98 (0, 0))], R]) (hd : DevAt pb sg db d.la d.lo) (hlo : d.lo = []) (hon : d.p.off = false) (h64 : Full64 d.la) (h4 : d.la.length ≤ 4096) (hn : 1 ≤ n ∧ n ≤ 64) (hln : 5 + n * 4 ≤ d.la.length) (hg : CellsAt R 1 0 nibV) {x : Int} (hx : 0 ≤ x ∧ x < n) :
    Calls Tryz.prog 24 #[(.pointer (some ⟨tb, 0, none⟩)), (.int .i64 x)] w fun e w' => ∃ v hs, e = .returned (.tuple #[.agg #[.int .i64 (pgOf (pgB d.la (plc x)) x).1.1, .int .i64 (pgOf (pgB d.la (plc x)) x).1.2.1, v], .int .i64 (pgOf (pgB d.la (plc x)) x).2]) ∧ Own 70 2 v (pgOf (pgB d.la (plc x)) x).1.2.2.length ((pgOf (pgB d.la (plc x)) x).1.2.2.flatMap ceC) hs ∧ Has E w' [hs, sg, [Hp.one pb (.cells #[(.bool d.p.off), (.bool d.p.armed), (.int .i64 d.p.left), (.int .i64 d.p.uses)] 101 (0, 0))], [Hp.one tb (.cells #[(.pointer (some ⟨db, 0, none⟩)), (.int .i64 n)] 98 (0, 0))], R] := by
  have hBl_ := pgB_len h64 (x := plc x) (by unfold plc; omega) (by unfold plc; omega)
  refine c_enter (args := [(.pointer (some ⟨tb, 0, none⟩)), (.int .i64 x)]) Tryz.func24 rfl Tryz.ntmps24 (by simp) ?_
  refine wp_seq_k fun K1 hK1 => ?_
  refine c_region ?_
  refine s_op (o_alloc (cs := #[(.int .i64 0), (.int .i64 0), (.slice none 0 0)]) ti36 rfl hH fun b2 w3 hH4 => ?_)
  refine s_op (o_assign (v := (.int .i64 0)) rfl ?_)
  refine s_nil ?_
  refine t_norm (hK1 _ _ ?_)
  refine wp_seq_k fun K5 hK5 => ?_
  refine wp_block ?_
  refine wp_seq_k fun K6 hK6 => ?_
  refine c_region ?_
  refine s_op (o_move (v := (.pointer (some ⟨tb, 0, none⟩))) rfl ?_)
  refine s_op (o_pnil (p := some _) Tryz.underlying25 rfl rfl ?_)
  refine s_op (o_assign (v := (.bool false)) rfl ?_)
  refine s_nil ?_
  refine t_norm (hK6 _ _ ?_)
  refine c_false rfl rfl ?_
  refine wp_seq_k fun K7 hK7 => ?_
  refine c_region ?_
  refine s_op (o_move (v := (.int .i64 x)) rfl ?_)
  refine s_op (o_lss (a := x) (b := 0) rfl rfl ?_)
  refine s_op (o_move (v := (.bool (decide (x < 0)))) rfl ?_)
  by_cases h8 : x < 0
  · -- x < 0
    exfalso; omega
  · -- not: x < 0
    refine s_on 17 rfl (congrArg Value.bool (decide_eq_false h8)) (o_move (v := (.int .i64 x)) rfl ?_)
    refine s_on 17 rfl (congrArg Value.bool (decide_eq_false h8)) (o_move (v := (.pointer (some ⟨tb, 0, none⟩))) rfl ?_)
    refine s_on 17 rfl (congrArg Value.bool (decide_eq_false h8)) (o_nilCheck rfl ?_)
    refine s_on 17 rfl (congrArg Value.bool (decide_eq_false h8)) (o_fieldAddr (k := 1) (fun _ => by kernel_rfl) rfl ?_)
    refine s_on 17 rfl (congrArg Value.bool (decide_eq_false h8)) (o_load1 (v := (.int .i64 n)) Tryz.underlying3 rfl rfl hH4 (seg_sub 3 rfl) (CellsAt.one rfl) ?_)
    refine s_on 17 rfl (congrArg Value.bool (decide_eq_false h8)) (o_geq (a := x) (b := n) rfl rfl ?_)
    refine s_op (o_pick_f (u := (.bool (decide (n ≤ x)))) ((rfl : _ = _).trans (congrArg Value.bool (decide_eq_false h8))) rfl ?_)
    refine s_op (o_assign (v := (.bool (decide (n ≤ x)))) rfl ?_)
    refine s_nil ?_
    refine t_norm (hK7 _ _ ?_)
    refine c_cond rfl (fun h9 => ?_) (fun h9 => ?_)
    · -- n ≤ x
      exfalso; omega
    · -- not: n ≤ x
      refine wp_skip ?_
      refine b_norm ?_
      refine t_norm (hK5 _ _ ?_)
      refine wp_seq_k fun K10 hK10 => ?_
      refine c_region ?_
      refine s_op (o_move (v := (.pointer (some ⟨tb, 0, none⟩))) rfl ?_)
      refine s_op (o_move (v := (.int .i64 x)) rfl ?_)
      refine s_op (o_callf (vs := #[(.int .i64 x)]) ca64 rfl (args1 rfl) (place_c hH4.all (x := x) ⟨by omega, by omega⟩) ?_)
      rintro _ w13 ⟨rfl, hX11⟩
      refine ⟨_, rfl, ?_⟩
      have hH12 := hX11.of_all
      refine s_op (o_callf (vs := #[(.pointer (some ⟨tb, 0, none⟩)), (.int .i64 (plc x))]) ca63 rfl (args2 rfl rfl) (tget_on (d := d) (n := n) (((hH12.front 3 rfl).front 3 rfl).front 3 rfl).all3 hd hlo hon h64 (x := plc x) (by unfold plc; exact ⟨by omega, by omega⟩) h4) ?_)
      rintro _ w16 ⟨rfl, hX14⟩
      refine ⟨_, rfl, ?_⟩
      have hH15 : Has E w16 [sg, [Hp.one pb (.cells #[(.bool d.p.off), (.bool d.p.armed), (.int .i64 d.p.left), (.int .i64 d.p.uses)] 101 (0, 0))], [Hp.one tb (.cells #[(.pointer (some ⟨db, 0, none⟩)), (.int .i64 n)] 98 (0, 0))], [Hp.one b2 (.cells #[(.int .i64 0), (.int .i64 0), (.slice none 0 0)] 36 (0, 0))], R] := hX14.of_all3
      refine s_op (o_move (v := (.tuple #[(S (pgB d.la (plc x))), (.int .i64 (0 : Int))])) rfl ?_)
      refine s_op (o_extract (v := (S (pgB d.la (plc x)))) rfl rfl ?_)
      refine s_op (o_extract (v := (.int .i64 (0 : Int))) rfl rfl ?_)
      refine s_op (o_assign (v := (S (pgB d.la (plc x)))) rfl ?_)
      refine s_op (o_assign (v := (.int .i64 (0 : Int))) rfl ?_)
      refine s_nil ?_
      refine t_norm (hK10 _ _ ?_)
      refine wp_seq_k fun K17 hK17 => ?_
      refine wp_seq_k fun K18 hK18 => ?_
      refine c_region ?_
      refine s_op (o_move (v := (.int .i64 (0 : Int))) rfl ?_)
      refine s_op (o_neq (a := (0 : Int)) (b := 0) rfl rfl ?_)
      refine s_nil ?_
      refine t_norm (hK18 _ _ ?_)
      refine c_cond rfl (fun h19 => ?_) (fun h19 => ?_)
      · -- (0 : Int) ≠ 0
        exact absurd rfl h19
      · -- not: (0 : Int) ≠ 0
        refine wp_skip ?_
        refine t_norm (hK17 _ _ ?_)
        refine wp_seq_k fun K20 hK20 => ?_
        refine wp_seq_k fun K21 hK21 => ?_
        refine c_region ?_
        refine s_op (o_move (v := (S (pgB d.la (plc x)))) rfl ?_)
        refine s_op (o_callf (vs := #[(S (pgB d.la (plc x)))]) ca65 rfl (args1 rfl) (tblank_c hH15.all (pgB d.la (plc x)) (by omega)) ?_)
        rintro _ w24 ⟨rfl, hX22⟩
        refine ⟨_, rfl, ?_⟩
        have hH23 := hX22.of_all
        refine s_nil ?_
        refine t_norm (hK21 _ _ ?_)
        refine c_cond rfl (fun h25 => ?_) (fun h25 => ?_)
        · -- (pgB d.la (plc x)) = zer (pgB d.la (plc x)).length
          refine wp_seq_k fun K26 hK26 => ?_
          refine c_region ?_
          refine s_op (o_move (v := (.int .i64 x)) rfl ?_)
          refine s_op (o_sight (v := (.agg #[(.int .i64 x), (.int .i64 0), (.slice none 0 0)])) (fun _ => by kernel_rfl) ?_)
          refine s_eff (o_storeN (vs := [(.int .i64 x), (.int .i64 0), (.slice none 0 0)]) (c' := #[(.int .i64 x), (.int .i64 0), (.slice none 0 0)]) ti36 rfl rfl rfl rfl (by intro u hu; simp only [List.mem_cons, List.not_mem_nil, or_false] at hu; rcases hu with rfl | rfl | rfl <;> first | rfl) (by simp) (by kernel_rfl) (hH23.front 3 rfl) fun w27 hH28 => ?_)
          refine s_op (o_assign (v := (.int .i64 0)) rfl ?_)
          refine s_nil ?_
          refine t_norm (hK26 _ _ ?_)
          refine wp_ret ?_
          refine t_ret (c_retC2 Tryz.results24 rfl (run_loadVarN (cs := [(.int .i64 x), (.int .i64 0), (.slice none 0 0)]) Tryz.underlying36 rfl ti36 hH28 (seg_sub 0 rfl) (CellsAt.one rfl)) (x := (.int .i64 0)) rfl ?_)
          have hH29 : Has E w27 [[], sg, [Hp.one pb (.cells #[(.bool d.p.off), (.bool d.p.armed), (.int .i64 d.p.left), (.int .i64 d.p.uses)] 101 (0, 0))], [Hp.one tb (.cells #[(.pointer (some ⟨db, 0, none⟩)), (.int .i64 n)] 98 (0, 0))], R] := (Has.nil ((((hH28.front 4 rfl).front 4 rfl).front 4 rfl).front 4 rfl)).first 5 rfl
          have hE_ : (pgOf (pgB d.la (plc x)) x) = _ := pg_blank h25 hBl_
          exact ⟨_, _, by rw [hE_], by rw [hE_]; exact (Own.nil 70 2), hH29⟩
        · -- not: (pgB d.la (plc x)) = zer (pgB d.la (plc x)).length
          refine wp_skip ?_
          refine t_norm (hK20 _ _ ?_)
          refine wp_seq_k fun K30 hK30 => ?_
          refine c_region ?_
          refine s_op (o_move (v := (S (pgB d.la (plc x)))) rfl ?_)
          refine s_op (o_callf (vs := #[(S (pgB d.la (plc x)))]) ca66 rfl (args1 rfl) (pread_c (s := (pgB d.la (plc x))) hH23.all (hg.mono (seg_sub 4 rfl))) ?_)
          rintro _ w36 ⟨v31, s32, rfl, ho33, hX34⟩
          refine ⟨_, rfl, ?_⟩
          have hH35 : Has E w36 [s32, sg, [Hp.one pb (.cells #[(.bool d.p.off), (.bool d.p.armed), (.int .i64 d.p.left), (.int .i64 d.p.uses)] 101 (0, 0))], [Hp.one tb (.cells #[(.pointer (some ⟨db, 0, none⟩)), (.int .i64 n)] 98 (0, 0))], [Hp.one b2 (.cells #[(.int .i64 0), (.int .i64 0), (.slice none 0 0)] 36 (0, 0))], R] := hX34.of_all1
          refine s_op (o_move (v := (.tuple #[(.agg #[(.int .i64 ((readP (pgB d.la (plc x))).2.1)), (.int .i64 ((readP (pgB d.la (plc x))).2.2.1)), v31]), (.bool ((readP (pgB d.la (plc x))).1))])) rfl ?_)
          refine s_op (o_extract (v := (.agg #[(.int .i64 ((readP (pgB d.la (plc x))).2.1)), (.int .i64 ((readP (pgB d.la (plc x))).2.2.1)), v31])) rfl rfl ?_)
          refine s_op (o_extract (v := (.bool ((readP (pgB d.la (plc x))).1))) rfl rfl ?_)
          refine s_op (o_alloc (cs := #[(.int .i64 0), (.int .i64 0), (.slice none 0 0)]) ti36 rfl hH35 fun b37 w38 hH39 => ?_)
          refine s_eff (o_storeN (vs := [(.int .i64 ((readP (pgB d.la (plc x))).2.1)), (.int .i64 ((readP (pgB d.la (plc x))).2.2.1)), v31]) (c' := #[(.int .i64 ((readP (pgB d.la (plc x))).2.1)), (.int .i64 ((readP (pgB d.la (plc x))).2.2.1)), v31]) ti36 rfl rfl rfl rfl (by intro u hu; simp only [List.mem_cons, List.not_mem_nil, or_false] at hu; rcases hu with rfl | rfl | rfl <;> first | rfl | exact ho33.one) (by simp) (by kernel_rfl) (hH39.front 0 rfl) fun w40 hH41 => ?_)
          refine s_op (o_assign (v := (.bool ((readP (pgB d.la (plc x))).1))) rfl ?_)
          refine s_nil ?_
          refine t_norm (hK30 _ _ ?_)
          refine wp_seq_k fun K42 hK42 => ?_
          refine wp_seq_k fun K43 hK43 => ?_
          refine c_region ?_
          refine s_op (o_move (v := (.bool ((readP (pgB d.la (plc x))).1))) rfl ?_)
          refine s_op (o_not rfl ?_)
          refine s_op (o_move (v := (.bool (!((readP (pgB d.la (plc x))).1)))) rfl ?_)
          rcases Bool.eq_false_or_eq_true (!((readP (pgB d.la (plc x))).1)) with h44 | h44
          · -- !((readP (pgB d.la (plc x))).1)
            have h44_n : ((readP (pgB d.la (plc x))).1) = false := by simpa using h44
            refine s_off (b' := true) 48 rfl (congrArg Value.bool h44) rfl ?_
            refine s_off (b' := true) 48 rfl (congrArg Value.bool h44) rfl ?_
            refine s_off (b' := true) 48 rfl (congrArg Value.bool h44) rfl ?_
            refine s_off (b' := true) 48 rfl (congrArg Value.bool h44) rfl ?_
            refine s_op (o_pick_t (u := (.bool true)) ((rfl : _ = _).trans (congrArg Value.bool h44)) rfl ?_)
            refine s_nil ?_
            refine t_norm (hK43 _ _ ?_)
            refine c_true rfl rfl ?_
            refine wp_seq_k fun K45 hK45 => ?_
            refine c_region ?_
            refine s_op (o_sight (v := (.agg #[(.int .i64 0), (.int .i64 0), (.slice none 0 0)])) (fun _ => by kernel_rfl) ?_)
            refine s_eff (o_storeN (vs := [(.int .i64 0), (.int .i64 0), (.slice none 0 0)]) (c' := #[(.int .i64 0), (.int .i64 0), (.slice none 0 0)]) ti36 rfl rfl rfl rfl (by intro u hu; simp only [List.mem_cons, List.not_mem_nil, or_false] at hu; rcases hu with rfl | rfl | rfl <;> first | rfl) (by simp) (by kernel_rfl) (hH41.front 5 rfl) fun w46 hH47 => ?_)
            refine s_op (o_assign (v := (.int .i64 9)) rfl ?_)
            refine s_nil ?_
            refine t_norm (hK45 _ _ ?_)
            refine wp_ret ?_
            refine t_ret (c_retC2 Tryz.results24 rfl (run_loadVarN (cs := [(.int .i64 0), (.int .i64 0), (.slice none 0 0)]) Tryz.underlying36 rfl ti36 hH47 (seg_sub 0 rfl) (CellsAt.one rfl)) (x := (.int .i64 9)) rfl ?_)
            have hH48 : Has E w46 [[], sg, [Hp.one pb (.cells #[(.bool d.p.off), (.bool d.p.armed), (.int .i64 d.p.left), (.int .i64 d.p.uses)] 101 (0, 0))], [Hp.one tb (.cells #[(.pointer (some ⟨db, 0, none⟩)), (.int .i64 n)] 98 (0, 0))], R] := (Has.nil ((((hH47.front 6 rfl).front 6 rfl).front 6 rfl).front 6 rfl)).first 5 rfl
            have hE_ : (pgOf (pgB d.la (plc x)) x) = _ := pg_bad h25 hBl_ (fun k => by first | exact absurd k.1 (by simpa using h44))
            exact ⟨_, _, by rw [hE_], by rw [hE_]; exact (Own.nil 70 2), hH48⟩
          · -- not: !((readP (pgB d.la (plc x))).1)
            have h44_n : ((readP (pgB d.la (plc x))).1) = true := by simpa using h44
            refine s_on 48 rfl (congrArg Value.bool h44) (o_fieldAddr (k := 0) (fun _ => by kernel_rfl) rfl ?_)
            refine s_on 48 rfl (congrArg Value.bool h44) (o_load1 (v := (.int .i64 ((readP (pgB d.la (plc x))).2.1))) Tryz.underlying3 rfl rfl hH41 (seg_sub 0 rfl) (CellsAt.one rfl) ?_)
            refine s_on 48 rfl (congrArg Value.bool h44) (o_move (v := (.int .i64 x)) rfl ?_)
            refine s_on 48 rfl (congrArg Value.bool h44) (o_neq (a := (readP (pgB d.la (plc x))).2.1) (b := x) rfl rfl ?_)
            refine s_op (o_pick_f (u := (.bool (decide ((readP (pgB d.la (plc x))).2.1 ≠ x)))) ((rfl : _ = _).trans (congrArg Value.bool h44)) rfl ?_)
            refine s_nil ?_
            refine t_norm (hK43 _ _ ?_)
            refine c_cond rfl (fun h49 => ?_) (fun h49 => ?_)
            · -- (readP (pgB d.la (plc x))).2.1 ≠ x
              refine wp_seq_k fun K50 hK50 => ?_
              refine c_region ?_
              refine s_op (o_sight (v := (.agg #[(.int .i64 0), (.int .i64 0), (.slice none 0 0)])) (fun _ => by kernel_rfl) ?_)
              refine s_eff (o_storeN (vs := [(.int .i64 0), (.int .i64 0), (.slice none 0 0)]) (c' := #[(.int .i64 0), (.int .i64 0), (.slice none 0 0)]) ti36 rfl rfl rfl rfl (by intro u hu; simp only [List.mem_cons, List.not_mem_nil, or_false] at hu; rcases hu with rfl | rfl | rfl <;> first | rfl) (by simp) (by kernel_rfl) (hH41.front 5 rfl) fun w51 hH52 => ?_)
              refine s_op (o_assign (v := (.int .i64 9)) rfl ?_)
              refine s_nil ?_
              refine t_norm (hK50 _ _ ?_)
              refine wp_ret ?_
              refine t_ret (c_retC2 Tryz.results24 rfl (run_loadVarN (cs := [(.int .i64 0), (.int .i64 0), (.slice none 0 0)]) Tryz.underlying36 rfl ti36 hH52 (seg_sub 0 rfl) (CellsAt.one rfl)) (x := (.int .i64 9)) rfl ?_)
              have hH53 : Has E w51 [[], sg, [Hp.one pb (.cells #[(.bool d.p.off), (.bool d.p.armed), (.int .i64 d.p.left), (.int .i64 d.p.uses)] 101 (0, 0))], [Hp.one tb (.cells #[(.pointer (some ⟨db, 0, none⟩)), (.int .i64 n)] 98 (0, 0))], R] := (Has.nil ((((hH52.front 6 rfl).front 6 rfl).front 6 rfl).front 6 rfl)).first 5 rfl
              have hE_ : (pgOf (pgB d.la (plc x)) x) = _ := pg_bad h25 hBl_ (fun k => by first | exact absurd k.1 (by simpa using h44) | exact h49 k.2)
              exact ⟨_, _, by rw [hE_], by rw [hE_]; exact (Own.nil 70 2), hH53⟩
            · -- not: (readP (pgB d.la (plc x))).2.1 ≠ x
              refine wp_skip ?_
              refine t_norm (hK42 _ _ ?_)
              refine wp_seq_k fun K54 hK54 => ?_
              refine c_region ?_
              refine s_op (o_loadN (cs := [(.int .i64 ((readP (pgB d.la (plc x))).2.1)), (.int .i64 ((readP (pgB d.la (plc x))).2.2.1)), v31]) Tryz.underlying36 rfl ti36 rfl hH41 (seg_sub 0 rfl) (CellsAt.one rfl) ?_)
              refine s_eff (o_storeN (vs := [(.int .i64 ((readP (pgB d.la (plc x))).2.1)), (.int .i64 ((readP (pgB d.la (plc x))).2.2.1)), v31]) (c' := #[(.int .i64 ((readP (pgB d.la (plc x))).2.1)), (.int .i64 ((readP (pgB d.la (plc x))).2.2.1)), v31]) ti36 rfl rfl rfl rfl (by intro u hu; simp only [List.mem_cons, List.not_mem_nil, or_false] at hu; rcases hu with rfl | rfl | rfl <;> first | rfl | exact ho33.one) (by simp) (by kernel_rfl) (hH41.front 5 rfl) fun w55 hH56 => ?_)
              refine s_op (o_assign (v := (.int .i64 0)) rfl ?_)
              refine s_nil ?_
              refine t_norm (hK54 _ _ ?_)
              refine wp_ret ?_
              refine c_retC2 Tryz.results24 rfl (run_loadVarN (cs := [(.int .i64 ((readP (pgB d.la (plc x))).2.1)), (.int .i64 ((readP (pgB d.la (plc x))).2.2.1)), v31]) Tryz.underlying36 rfl ti36 hH56 (seg_sub 0 rfl) (CellsAt.one rfl)) (x := (.int .i64 0)) rfl ?_
              have hH57 : Has E w55 [s32, sg, [Hp.one pb (.cells #[(.bool d.p.off), (.bool d.p.armed), (.int .i64 d.p.left), (.int .i64 d.p.uses)] 101 (0, 0))], [Hp.one tb (.cells #[(.pointer (some ⟨db, 0, none⟩)), (.int .i64 n)] 98 (0, 0))], R] := (((((hH56.front 6 rfl).front 6 rfl).front 6 rfl).front 6 rfl).front 6 rfl).first 5 rfl
              have hE_ : (pgOf (pgB d.la (plc x)) x) = _ := pg_read h25 hBl_ (by simpa using h44) (Classical.not_not.1 h49)
              exact ⟨_, _, by rw [hE_], by rw [hE_]; exact ho33, hH57⟩
set_option maxHeartbeats 4000000 in
theorem tpage_none {E w : World} {R sg : List Hp} {pb db tb : Nat} {d : Dv} {n : Int} (hH : Has E w [sg, [Hp.one pb (.cells #[(.bool d.p.off), (.bool d.p.armed), (.int .i64 d.p.left), (.int .i64 d.p.uses)] 101 (0, 0))], [Hp.one tb (.cells #[(.pointer (some ⟨db, 0, none⟩)), (.int .i64 n)] 98 (0, 0))], R]) (hd : DevAt pb sg db d.la d.lo) {x : Int} (hx : x < 0 ∨ n ≤ x) :
    Calls Tryz.prog 24 #[(.pointer (some ⟨tb, 0, none⟩)), (.int .i64 x)] w fun e w' => e = .returned (.tuple #[.agg #[.int .i64 0, .int .i64 0, .slice none 0 0], .int .i64 7]) ∧ Has E w' [sg, [Hp.one pb (.cells #[(.bool d.p.off), (.bool d.p.armed), (.int .i64 d.p.left), (.int .i64 d.p.uses)] 101 (0, 0))], [Hp.one tb (.cells #[(.pointer (some ⟨db, 0, none⟩)), (.int .i64 n)] 98 (0, 0))], R] := by
  refine c_enter (args := [(.pointer (some ⟨tb, 0, none⟩)), (.int .i64 x)]) Tryz.func24 rfl Tryz.ntmps24 (by simp) ?_
  refine wp_seq_k fun K1 hK1 => ?_
  refine c_region ?_
  refine s_op (o_alloc (cs := #[(.int .i64 0), (.int .i64 0), (.slice none 0 0)]) ti36 rfl hH fun b2 w3 hH4 => ?_)
  refine s_op (o_assign (v := (.int .i64 0)) rfl ?_)
  refine s_nil ?_
  refine t_norm (hK1 _ _ ?_)
  refine wp_seq_k fun K5 hK5 => ?_
  refine wp_block ?_
  refine wp_seq_k fun K6 hK6 => ?_
  refine c_region ?_
  refine s_op (o_move (v := (.pointer (some ⟨tb, 0, none⟩))) rfl ?_)
  refine s_op (o_pnil (p := some _) Tryz.underlying25 rfl rfl ?_)
  refine s_op (o_assign (v := (.bool false)) rfl ?_)
  refine s_nil ?_
  refine t_norm (hK6 _ _ ?_)
  refine c_false rfl rfl ?_
  refine wp_seq_k fun K7 hK7 => ?_
  refine c_region ?_
  refine s_op (o_move (v := (.int .i64 x)) rfl ?_)
  refine s_op (o_lss (a := x) (b := 0) rfl rfl ?_)
  refine s_op (o_move (v := (.bool (decide (x < 0)))) rfl ?_)
  by_cases h8 : x < 0
  · -- x < 0
    refine s_off (b' := true) 17 rfl (congrArg Value.bool (decide_eq_true h8)) rfl ?_
    refine s_off (b' := true) 17 rfl (congrArg Value.bool (decide_eq_true h8)) rfl ?_
    refine s_off (b' := true) 17 rfl (congrArg Value.bool (decide_eq_true h8)) rfl ?_
    refine s_off (b' := true) 17 rfl (congrArg Value.bool (decide_eq_true h8)) rfl ?_
    refine s_off (b' := true) 17 rfl (congrArg Value.bool (decide_eq_true h8)) rfl ?_
    refine s_off (b' := true) 17 rfl (congrArg Value.bool (decide_eq_true h8)) rfl ?_
    refine s_op (o_pick_t (u := (.bool true)) ((rfl : _ = _).trans (congrArg Value.bool (decide_eq_true h8))) rfl ?_)
    refine s_op (o_assign (v := (.bool true)) rfl ?_)
    refine s_nil ?_
    refine t_norm (hK7 _ _ ?_)
    refine c_true rfl rfl ?_
    refine wp_seq_k fun K9 hK9 => ?_
    refine c_region ?_
    refine s_op (o_sight (v := (.agg #[(.int .i64 0), (.int .i64 0), (.slice none 0 0)])) (fun _ => by kernel_rfl) ?_)
    refine s_eff (o_storeN (vs := [(.int .i64 0), (.int .i64 0), (.slice none 0 0)]) (c' := #[(.int .i64 0), (.int .i64 0), (.slice none 0 0)]) ti36 rfl rfl rfl rfl (by intro u hu; simp only [List.mem_cons, List.not_mem_nil, or_false] at hu; rcases hu with rfl | rfl | rfl <;> first | rfl) (by simp) (by kernel_rfl) (hH4.front 0 rfl) fun w10 hH11 => ?_)
    refine s_op (o_assign (v := (.int .i64 7)) rfl ?_)
    refine s_nil ?_
    refine t_norm (hK9 _ _ ?_)
    refine wp_ret ?_
    refine b_ret (t_ret (c_retC2 Tryz.results24 rfl (run_loadVarN (cs := [(.int .i64 0), (.int .i64 0), (.slice none 0 0)]) Tryz.underlying36 rfl ti36 hH11 (seg_sub 0 rfl) (CellsAt.one rfl)) (x := (.int .i64 7)) rfl ?_))
    have hH12 : Has E w10 [sg, [Hp.one pb (.cells #[(.bool d.p.off), (.bool d.p.armed), (.int .i64 d.p.left), (.int .i64 d.p.uses)] 101 (0, 0))], [Hp.one tb (.cells #[(.pointer (some ⟨db, 0, none⟩)), (.int .i64 n)] 98 (0, 0))], R] := ((((hH11.front 4 rfl).front 4 rfl).front 4 rfl).front 4 rfl).first 4 rfl
    exact ⟨rfl, hH12⟩
  · -- not: x < 0
    refine s_on 17 rfl (congrArg Value.bool (decide_eq_false h8)) (o_move (v := (.int .i64 x)) rfl ?_)
    refine s_on 17 rfl (congrArg Value.bool (decide_eq_false h8)) (o_move (v := (.pointer (some ⟨tb, 0, none⟩))) rfl ?_)
    refine s_on 17 rfl (congrArg Value.bool (decide_eq_false h8)) (o_nilCheck rfl ?_)
    refine s_on 17 rfl (congrArg Value.bool (decide_eq_false h8)) (o_fieldAddr (k := 1) (fun _ => by kernel_rfl) rfl ?_)
    refine s_on 17 rfl (congrArg Value.bool (decide_eq_false h8)) (o_load1 (v := (.int .i64 n)) Tryz.underlying3 rfl rfl hH4 (seg_sub 3 rfl) (CellsAt.one rfl) ?_)
    refine s_on 17 rfl (congrArg Value.bool (decide_eq_false h8)) (o_geq (a := x) (b := n) rfl rfl ?_)
    refine s_op (o_pick_f (u := (.bool (decide (n ≤ x)))) ((rfl : _ = _).trans (congrArg Value.bool (decide_eq_false h8))) rfl ?_)
    refine s_op (o_assign (v := (.bool (decide (n ≤ x)))) rfl ?_)
    refine s_nil ?_
    refine t_norm (hK7 _ _ ?_)
    refine c_cond rfl (fun h13 => ?_) (fun h13 => ?_)
    · -- n ≤ x
      refine wp_seq_k fun K14 hK14 => ?_
      refine c_region ?_
      refine s_op (o_sight (v := (.agg #[(.int .i64 0), (.int .i64 0), (.slice none 0 0)])) (fun _ => by kernel_rfl) ?_)
      refine s_eff (o_storeN (vs := [(.int .i64 0), (.int .i64 0), (.slice none 0 0)]) (c' := #[(.int .i64 0), (.int .i64 0), (.slice none 0 0)]) ti36 rfl rfl rfl rfl (by intro u hu; simp only [List.mem_cons, List.not_mem_nil, or_false] at hu; rcases hu with rfl | rfl | rfl <;> first | rfl) (by simp) (by kernel_rfl) (hH4.front 0 rfl) fun w15 hH16 => ?_)
      refine s_op (o_assign (v := (.int .i64 7)) rfl ?_)
      refine s_nil ?_
      refine t_norm (hK14 _ _ ?_)
      refine wp_ret ?_
      refine b_ret (t_ret (c_retC2 Tryz.results24 rfl (run_loadVarN (cs := [(.int .i64 0), (.int .i64 0), (.slice none 0 0)]) Tryz.underlying36 rfl ti36 hH16 (seg_sub 0 rfl) (CellsAt.one rfl)) (x := (.int .i64 7)) rfl ?_))
      have hH17 : Has E w15 [sg, [Hp.one pb (.cells #[(.bool d.p.off), (.bool d.p.armed), (.int .i64 d.p.left), (.int .i64 d.p.uses)] 101 (0, 0))], [Hp.one tb (.cells #[(.pointer (some ⟨db, 0, none⟩)), (.int .i64 n)] 98 (0, 0))], R] := ((((hH16.front 4 rfl).front 4 rfl).front 4 rfl).front 4 rfl).first 4 rfl
      exact ⟨rfl, hH17⟩
    · -- not: n ≤ x
      exfalso; omega
set_option maxHeartbeats 4000000 in
theorem tpages_c {E w : World} {R : List Hp} (hH : Has E w [R]) {tb db : Nat} {n : Int} (hc : CellsAt R tb 0 [(.pointer (some ⟨db, 0, none⟩)), (.int .i64 n)]) :
    Calls Tryz.prog 28 #[(.pointer (some ⟨tb, 0, none⟩))] w fun e w' => e = .returned (.int .i64 n) ∧ Has E w' [R] := by
  refine c_enter (args := [(.pointer (some ⟨tb, 0, none⟩))]) Tryz.func28 rfl Tryz.ntmps28 (by simp) ?_
  refine wp_seq_k fun K1 hK1 => ?_
  refine c_region ?_
  refine s_op (o_assign (v := (.int .i64 0)) rfl ?_)
  refine s_nil ?_
  refine t_norm (hK1 _ _ ?_)
  refine wp_seq_k fun K2 hK2 => ?_
  refine wp_seq_k fun K3 hK3 => ?_
  refine c_region ?_
  refine s_op (o_move (v := (.pointer (some ⟨tb, 0, none⟩))) rfl ?_)
  refine s_op (o_pnil (p := some _) Tryz.underlying25 rfl rfl ?_)
  refine s_nil ?_
  refine t_norm (hK3 _ _ ?_)
  refine c_false rfl rfl ?_
  refine wp_skip ?_
  refine t_norm (hK2 _ _ ?_)
  refine wp_seq_k fun K4 hK4 => ?_
  refine c_region ?_
  refine s_op (o_move (v := (.pointer (some ⟨tb, 0, none⟩))) rfl ?_)
  refine s_op (o_nilCheck rfl ?_)
  refine s_op (o_fieldAddr (k := 1) (fun _ => by kernel_rfl) rfl ?_)
  refine s_op (o_load1 (v := (.int .i64 n)) Tryz.underlying3 rfl rfl hH (seg_sub 0 rfl) (CellsAt.field (k := 1) (ds := [(.int .i64 n)]) hc rfl) ?_)
  refine s_op (o_assign (v := (.int .i64 n)) rfl ?_)
  refine s_nil ?_
  refine t_norm (hK4 _ _ ?_)
  refine wp_ret ?_
  refine c_ret1 Tryz.results28  (v := (.int .i64 n)) rfl ?_
  exact ⟨rfl, hH⟩
end Go.Q
namespace Go.Q
def Dv.sy2 (d : Dv) : Dv := ⟨useS d.p, if useB d.p = true then nowS d.la d.lo else d.la, syncO d.p d.lo⟩
theorem sy_eq {d : Dv} (h : LoOk d.lo d.la.length) : d.sy = d.sy2 := by
  unfold Dv.sy Dv.sy2 syncA
  rw [now_sync h]
def wrsy2 (d : Dv) (l : Grp) : Int × Dv := if (wrs d l).1 = 0 then ((wrs d l).2.syE, (wrs d l).2.sy2) else wrs d l
theorem wrsy_eq {d : Dv} {g : Grp} (h : LoOk d.lo d.la.length) : wrsy d g = wrsy2 d g := by
  unfold wrsy wrsy2
  rw [sy_eq (d := (wrs d g).2) (by rw [wrs_la]; exact lo_wrs g d h)]
def runs2 : Dv → List Grp → Int × Dv
  | d, [] => (0, d)
  | d, g :: t => if (wrsy2 d g).1 = 0 then runs2 (wrsy2 d g).2 t else wrsy2 d g
theorem runs_eq : ∀ (gs : List Grp) (d : Dv), d.lo = [] → runs d gs = runs2 d gs
  | [], _, _ => rfl
  | g :: t, d, h => by
    have e : wrsy d g = wrsy2 d g := wrsy_eq (by rw [h]; exact LoOk.nil _)
    have e1 : runs d (g :: t) = if (wrsy d g).1 = 0 then runs (wrsy d g).2 t else wrsy d g := rfl
    have e2 : runs2 d (g :: t) = if (wrsy2 d g).1 = 0 then runs2 (wrsy2 d g).2 t else wrsy2 d g := rfl
    rw [e1, e2]
    by_cases h0 : (wrsy d g).1 = 0
    · rw [if_pos h0, if_pos (by rw [← e]; exact h0), ← e]
      exact runs_eq t _ (wrsy_zero h0)
    · rw [if_neg h0, if_neg (by rw [← e]; exact h0), e]
def st2 (d : Dv) (n : Int) (a : Pg) : Int × Dv := if lpg a = [] ∨ n ≤ a.1 then (1, d) else runs2 d (stG a.1 (lpg a))
theorem st_eq {d : Dv} {n : Int} {a : Pg} (h : d.lo = []) : st1 d n a = st2 d n a := by
  unfold st1 st2
  rw [runs_eq _ _ h]
theorem stL_one {d : Dv} {n : Int} {a : Pg} : stL d n [a] = st1 d n a := by
  show (if (st1 d n a).1 = 0 then (0, (st1 d n a).2) else st1 d n a) = _
  split
  · rename_i h; rw [← h]
  · rfl
def mend2 (d : Dv) (n : Int) : Int × Dv :=
  if d.p.off = true then (6, d) else if (notedS (sec d.la 0) n).2 ≠ 0 then (9, d) else if (notedS (sec d.la 0) n).1 < 0 then (0, d)
  else if (readP (pgB d.la 1)).1 = true ∧ (readP (pgB d.la 1)).2.1 = (notedS (sec d.la 0) n).1 then runs2 d (mendG (notedS (sec d.la 0) n).1 (pgB d.la 1)) else (9, d)
theorem mend_eq {d : Dv} {n : Int} (h : d.lo = []) : mendR d n = mend2 d n := by
  unfold mendR mend2
  rw [runs_eq _ _ h]
def awA : Pg := (2, 7, .slice none 0 0, [])
def aw0 : Dv := Dv.ar ⟨⟨false, false, 0 - (((50 : Nat) : Int) + 1), 0 + (((50 : Nat) : Int) + 1)⟩, List.replicate 50 blankS, []⟩ 9
def aw1 : Dv := (stL aw0 4 [awA]).2
def aw2 : Dv := aw1.cr [14]
def bw1 : Dv := (st2 aw0 4 awA).2
def bw2 : Dv := bw1.cr [14]
theorem aw1_eq : aw1 = bw1 := by unfold aw1 bw1; rw [stL_one, st_eq rfl]
theorem aw2_eq : aw2 = bw2 := by unfold aw2 bw2; rw [aw1_eq]
theorem aw2_lo : aw2.lo = [] := rfl
theorem aw3_h : mendR aw2 4 = mend2 aw2 4 := mend_eq aw2_lo
theorem aw3_k {a b : Dv} (e : a = b) : mend2 a 4 = mend2 b 4 := by rw [e]
theorem aw3_e : mend2 aw2 4 = mend2 bw2 4 := aw3_k aw2_eq
theorem aw3_s {x y : Int × Dv} (e : x = y) : x.2 = y.2 := by rw [e]
theorem aw3_t : mendR aw2 4 = mend2 bw2 4 := aw3_h.trans aw3_e
theorem aw3_u : (mendR aw2 4).2 = (mend2 bw2 4).2 := aw3_s aw3_t
set_option maxRecDepth 1000000
theorem aw_f : (stL aw0 4 [awA]).1 = 6 := by rw [stL_one, st_eq rfl]; decide +kernel
theorem aw_g : (mendR aw2 4).1 = 0 := by rw [mend_eq rfl, aw2_eq]; decide +kernel
theorem aw_p : pgOf (pgB (mendR aw2 4).2.la (plc 2)) 2 = ((2, 7, []), 0) := by rw [aw3_u]; decide +kernel
theorem aw_l1 : LoOk aw1.lo aw1.la.length := by rw [aw1_eq]; unfold LoOk inS; decide +kernel
theorem aw_64 : Full64 aw2.la := by rw [aw2_eq]; unfold Full64; decide +kernel
theorem aw_643 : Full64 (mendR aw2 4).2.la := by rw [aw3_u]; unfold Full64; decide +kernel
theorem aw_n : aw2.la.length = 50 ∧ (mendR aw2 4).2.la.length = 50 := by rw [mend_len, aw2_eq]; decide +kernel
theorem aw_on : (mendR aw2 4).2.p.off = false ∧ (mendR aw2 4).2.lo = [] := by rw [aw3_u]; decide +kernel
theorem aw_few0 : Few aw0.p 60 := by unfold Few; decide +kernel
theorem aw_few2 : Few aw2.p 80 := by rw [aw2_eq]; unfold Few; decide +kernel
end Go.Q
namespace Go.Q
open Go.Proofs
set_option linter.unusedVariables false
set_option maxRecDepth 100000
attribute [local irreducible] wpList OK Code.wp
set_option maxHeartbeats 4000000 in
theorem awake12_c {E w : World} {R : List Hp} (hH : Has E w [R]) (hg : CellsAt R 1 0 nibV) :
    Calls Tryz.prog 11 #[] w fun e w' => e = .returned (.bool true) ∧ Has E w' [R] := by
  refine c_enter (args := []) Tryz.func11 rfl Tryz.ntmps11 (by simp) ?_
  refine wp_seq_k fun K1 hK1 => ?_
  refine c_region ?_
  refine s_op (o_assign (v := (.bool false)) rfl ?_)
  refine s_nil ?_
  refine t_norm (hK1 _ _ ?_)
  refine wp_seq_k fun K2 hK2 => ?_
  refine c_region ?_
  refine s_op (o_callf (vs := #[(.pointer none), (.int .i64 50)]) ca14 rfl (args2 rfl rfl) (new_nil hH.all (n := 50) (by decide)) ?_)
  rintro _ w9 ⟨db3, pb4, sg5, rfl, hd6, hX7⟩
  refine ⟨_, rfl, ?_⟩
  have hH8 : Has E w9 [sg5, [Hp.one pb4 (.cells #[(.bool (Pw.mk false false 0 0).off), (.bool (Pw.mk false false 0 0).armed), (.int .i64 (Pw.mk false false 0 0).left), (.int .i64 (Pw.mk false false 0 0).uses)] 101 (0, 0))], R] := hX7.of_all2
  refine s_op (o_assign (v := (.pointer (some ⟨db3, 0, none⟩))) rfl ?_)
  refine s_nil ?_
  refine t_norm (hK2 _ _ ?_)
  refine wp_seq_k fun K10 hK10 => ?_
  refine c_region ?_
  refine s_op (o_move (v := (.pointer (some ⟨db3, 0, none⟩))) rfl ?_)
  refine s_op (o_callf (vs := #[(.pointer (some ⟨db3, 0, none⟩)), (.int .i64 4)]) ca13 rfl (args2 rfl rfl) (tfmt_ok (p := (Pw.mk false false 0 0)) (m := 50) ((hH8.front 1 rfl).front 1 rfl).all2 hd6 (n := 4) ⟨rfl, rfl⟩ Few.new (by decide) (by decide) (by decide) (by decide)) ?_)
  rintro _ w16 ⟨tb11, sg12, rfl, hd13, hX14⟩
  refine ⟨_, rfl, ?_⟩
  have hH15 : Has E w16 [[Hp.one tb11 (.cells #[(.pointer (some ⟨db3, 0, none⟩)), (.int .i64 4)] 98 (0, 0))], sg12, [Hp.one pb4 (.cells #[(.bool (Pw.mk false false (0 - (((50 : Nat) : Int) + 1)) (0 + (((50 : Nat) : Int) + 1))).off), (.bool (Pw.mk false false (0 - (((50 : Nat) : Int) + 1)) (0 + (((50 : Nat) : Int) + 1))).armed), (.int .i64 (Pw.mk false false (0 - (((50 : Nat) : Int) + 1)) (0 + (((50 : Nat) : Int) + 1))).left), (.int .i64 (Pw.mk false false (0 - (((50 : Nat) : Int) + 1)) (0 + (((50 : Nat) : Int) + 1))).uses)] 101 (0, 0))], R] := hX14.of_all3
  refine s_op (o_move (v := (.tuple #[(.pointer (some ⟨tb11, 0, none⟩)), (.int .i64 (0 : Int))])) rfl ?_)
  refine s_op (o_extract (v := (.pointer (some ⟨tb11, 0, none⟩))) rfl rfl ?_)
  refine s_op (o_extract (v := (.int .i64 (0 : Int))) rfl rfl ?_)
  refine s_op (o_assign (v := (.pointer (some ⟨tb11, 0, none⟩))) rfl ?_)
  refine s_op (o_assign (v := (.int .i64 (0 : Int))) rfl ?_)
  refine s_nil ?_
  refine t_norm (hK10 _ _ ?_)
  refine wp_seq_k fun K17 hK17 => ?_
  refine c_region ?_
  refine s_op (o_move (v := (.pointer (some ⟨db3, 0, none⟩))) rfl ?_)
  refine s_op (o_callf (vs := #[(.pointer (some ⟨db3, 0, none⟩)), (.int .i64 9)]) ca22 rfl (args2 rfl rfl) (dv_ar (d := (Dv.mk (Pw.mk false false (0 - (((50 : Nat) : Int) + 1)) (0 + (((50 : Nat) : Int) + 1))) (List.replicate 50 blankS) [])) ((hH15.front 2 rfl).front 2 rfl).all2 hd13 9) ?_)
  rintro _ w21 ⟨rfl, hd18, hX19⟩
  refine ⟨_, rfl, ?_⟩
  have hH20 : Has E w21 [sg12, [Hp.one pb4 (.cells #[(.bool ((Dv.mk (Pw.mk false false (0 - (((50 : Nat) : Int) + 1)) (0 + (((50 : Nat) : Int) + 1))) (List.replicate 50 blankS) []).ar 9).p.off), (.bool ((Dv.mk (Pw.mk false false (0 - (((50 : Nat) : Int) + 1)) (0 + (((50 : Nat) : Int) + 1))) (List.replicate 50 blankS) []).ar 9).p.armed), (.int .i64 ((Dv.mk (Pw.mk false false (0 - (((50 : Nat) : Int) + 1)) (0 + (((50 : Nat) : Int) + 1))) (List.replicate 50 blankS) []).ar 9).p.left), (.int .i64 ((Dv.mk (Pw.mk false false (0 - (((50 : Nat) : Int) + 1)) (0 + (((50 : Nat) : Int) + 1))) (List.replicate 50 blankS) []).ar 9).p.uses)] 101 (0, 0))], [Hp.one tb11 (.cells #[(.pointer (some ⟨db3, 0, none⟩)), (.int .i64 4)] 98 (0, 0))], R] := hX19.of_all2
  have hH22 : Has E w21 [sg12, [Hp.one pb4 (.cells #[(.bool aw0.p.off), (.bool aw0.p.armed), (.int .i64 aw0.p.left), (.int .i64 aw0.p.uses)] 101 (0, 0))], [Hp.one tb11 (.cells #[(.pointer (some ⟨db3, 0, none⟩)), (.int .i64 4)] 98 (0, 0))], R] := hH20
  have hd23 : DevAt pb4 sg12 db3 aw0.la aw0.lo := hd18
  refine s_nil ?_
  refine t_norm (hK17 _ _ ?_)
  refine wp_seq_k fun K24 hK24 => ?_
  refine c_region ?_
  refine s_op (o_move (v := (.pointer (some ⟨tb11, 0, none⟩))) rfl ?_)
  refine s_op (o_sight (v := (.agg #[(.int .i64 2), (.int .i64 7), (.slice none 0 0)])) (fun _ => by kernel_rfl) ?_)
  refine s_op (o_buildSlice (ps := #[(0, (.agg #[(.int .i64 2), (.int .i64 7), (.slice none 0 0)]))]) (cells := #[(.int .i64 2), (.int .i64 7), (.slice none 0 0)]) Tryz.underlying31 ti36 (by decide) (parts1 rfl) (by kernel_rfl) hH22 fun b25 w26 hH27 => ?_)
  refine s_op (o_callf (vs := #[(.pointer (some ⟨tb11, 0, none⟩)), (.slice (some ⟨b25, 0, none⟩) 1 1)]) ca18 rfl (args2 rfl rfl) (tstoreL_c (d := aw0) (n := 4) (((hH27.front 3 rfl).front 3 rfl).front 3 rfl).all3 hd23 aw_few0 (by omega) rfl (by decide) (hg.mono (seg_sub 1 rfl)) (l := [((2, 7, (.slice none 0 0), []) : Pg)]) ((sl_litF (f := pgC) (l := [((2, 7, (.slice none 0 0), []) : Pg)]) pgC_len rfl rfl (by simp)).mono (seg_sub 0 rfl)) (fun a ha => by rw [List.mem_singleton.1 ha]; exact sl_nil 2) (by first | omega | simp)) ?_)
  rintro _ w32 ⟨sg28, rfl, hd29, hX30⟩
  refine ⟨_, rfl, ?_⟩
  have hH31 : Has E w32 [sg28, [Hp.one pb4 (.cells #[(.bool ((stL aw0 4 [((2, 7, (.slice none 0 0), []) : Pg)]).2).p.off), (.bool ((stL aw0 4 [((2, 7, (.slice none 0 0), []) : Pg)]).2).p.armed), (.int .i64 ((stL aw0 4 [((2, 7, (.slice none 0 0), []) : Pg)]).2).p.left), (.int .i64 ((stL aw0 4 [((2, 7, (.slice none 0 0), []) : Pg)]).2).p.uses)] 101 (0, 0))], [Hp.one tb11 (.cells #[(.pointer (some ⟨db3, 0, none⟩)), (.int .i64 4)] 98 (0, 0))], [Hp.one b25 (.cells #[(.int .i64 2), (.int .i64 7), (.slice none 0 0)] 36 (0, 0))], R] := hX30.of_all3
  have hH33 : Has E w32 [sg28, [Hp.one pb4 (.cells #[(.bool aw1.p.off), (.bool aw1.p.armed), (.int .i64 aw1.p.left), (.int .i64 aw1.p.uses)] 101 (0, 0))], [Hp.one tb11 (.cells #[(.pointer (some ⟨db3, 0, none⟩)), (.int .i64 4)] 98 (0, 0))], [Hp.one b25 (.cells #[(.int .i64 2), (.int .i64 7), (.slice none 0 0)] 36 (0, 0))], R] := hH31
  have hd34 : DevAt pb4 sg28 db3 aw1.la aw1.lo := hd29
  refine s_op (o_assign (v := (.int .i64 ((stL aw0 4 [awA]).1))) rfl ?_)
  refine s_nil ?_
  refine t_norm (hK24 _ _ ?_)
  refine wp_seq_k fun K35 hK35 => ?_
  refine c_region ?_
  refine s_op (o_move (v := (.pointer (some ⟨db3, 0, none⟩))) rfl ?_)
  refine s_op (o_buildSlice (ps := #[(0, (.int .i64 14))]) (cells := #[(.int .i64 14)]) Tryz.underlying40 ti3 (by decide) (parts1 rfl) (by kernel_rfl) hH33 fun b36 w37 hH38 => ?_)
  refine s_op (o_callf (vs := #[(.pointer (some ⟨db3, 0, none⟩)), (.slice (some ⟨b36, 0, none⟩) 1 1)]) ca23 rfl (args2 rfl rfl) (dv_cr (d := aw1) ((hH38.front 2 rfl).front 2 rfl).all2 hd34 aw_l1 (keep := [14]) ((sl_lit (f := iV) (l := [14]) rfl rfl (by simp)).mono (seg_sub 0 rfl))) ?_)
  rintro _ w43 ⟨sg39, rfl, hd40, hX41⟩
  refine ⟨_, rfl, ?_⟩
  have hH42 : Has E w43 [sg39, [Hp.one pb4 (.cells #[(.bool (aw1.cr [14]).p.off), (.bool (aw1.cr [14]).p.armed), (.int .i64 (aw1.cr [14]).p.left), (.int .i64 (aw1.cr [14]).p.uses)] 101 (0, 0))], [Hp.one b36 (.cells #[(.int .i64 14)] 3 (0, 0))], [Hp.one tb11 (.cells #[(.pointer (some ⟨db3, 0, none⟩)), (.int .i64 4)] 98 (0, 0))], [Hp.one b25 (.cells #[(.int .i64 2), (.int .i64 7), (.slice none 0 0)] 36 (0, 0))], R] := hX41.of_all2
  have hH44 : Has E w43 [sg39, [Hp.one pb4 (.cells #[(.bool aw2.p.off), (.bool aw2.p.armed), (.int .i64 aw2.p.left), (.int .i64 aw2.p.uses)] 101 (0, 0))], [Hp.one b36 (.cells #[(.int .i64 14)] 3 (0, 0))], [Hp.one tb11 (.cells #[(.pointer (some ⟨db3, 0, none⟩)), (.int .i64 4)] 98 (0, 0))], [Hp.one b25 (.cells #[(.int .i64 2), (.int .i64 7), (.slice none 0 0)] 36 (0, 0))], R] := hH42
  have hd45 : DevAt pb4 sg39 db3 aw2.la aw2.lo := hd40
  refine s_nil ?_
  refine t_norm (hK35 _ _ ?_)
  refine wp_seq_k fun K46 hK46 => ?_
  refine c_region ?_
  refine s_op (o_move (v := (.pointer (some ⟨db3, 0, none⟩))) rfl ?_)
  refine s_op (o_callf (vs := #[(.pointer (some ⟨db3, 0, none⟩)), (.int .i64 4)]) ca21 rfl (args2 rfl rfl) (topen_ok (d := aw2) ((hH44.front 1 rfl).front 1 rfl).all2 hd45 (n := 4) aw_few2 (by omega) rfl (by rw [aw_n.1]; decide) ⟨by decide, by decide⟩ (by rw [aw_n.1]; decide) (hg.mono (seg_sub 3 rfl)) aw_64 rfl aw_g) ?_)
  rintro _ w52 ⟨tb49, sg47, rfl, hd48, hX50⟩
  refine ⟨_, rfl, ?_⟩
  have hH51 : Has E w52 [[Hp.one tb49 (.cells #[(.pointer (some ⟨db3, 0, none⟩)), (.int .i64 4)] 98 (0, 0))], sg47, [Hp.one pb4 (.cells #[(.bool ((mendR aw2 4).2).p.off), (.bool ((mendR aw2 4).2).p.armed), (.int .i64 ((mendR aw2 4).2).p.left), (.int .i64 ((mendR aw2 4).2).p.uses)] 101 (0, 0))], [Hp.one b36 (.cells #[(.int .i64 14)] 3 (0, 0))], [Hp.one tb11 (.cells #[(.pointer (some ⟨db3, 0, none⟩)), (.int .i64 4)] 98 (0, 0))], [Hp.one b25 (.cells #[(.int .i64 2), (.int .i64 7), (.slice none 0 0)] 36 (0, 0))], R] := hX50.of_all3
  refine s_op (o_move (v := (.tuple #[(.pointer (some ⟨tb49, 0, none⟩)), (.int .i64 (0 : Int))])) rfl ?_)
  refine s_op (o_extract (v := (.pointer (some ⟨tb49, 0, none⟩))) rfl rfl ?_)
  refine s_op (o_extract (v := (.int .i64 (0 : Int))) rfl rfl ?_)
  refine s_op (o_assign (v := (.pointer (some ⟨tb49, 0, none⟩))) rfl ?_)
  refine s_op (o_assign (v := (.int .i64 (0 : Int))) rfl ?_)
  refine s_nil ?_
  refine t_norm (hK46 _ _ ?_)
  refine wp_seq_k fun K53 hK53 => ?_
  refine c_region ?_
  refine s_op (o_move (v := (.pointer (some ⟨tb49, 0, none⟩))) rfl ?_)
  refine s_op (o_callf (vs := #[(.pointer (some ⟨tb49, 0, none⟩)), (.int .i64 2)]) ca24 rfl (args2 rfl rfl) (tpage_on (d := (mendR aw2 4).2) (n := 4) ((hH51.front 2 rfl).front 2 rfl).all3 hd48 aw_on.2 aw_on.1 aw_643 (by rw [aw_n.2]; decide) ⟨by decide, by decide⟩ (by rw [aw_n.2]; decide) (hg.mono (seg_sub 3 rfl)) (x := 2) ⟨by omega, by omega⟩) ?_)
  rintro _ w59 ⟨v54, hs55, rfl, ho56, hX57⟩
  refine ⟨_, rfl, ?_⟩
  have hH58 : Has E w59 [hs55, sg47, [Hp.one pb4 (.cells #[(.bool ((mendR aw2 4).2).p.off), (.bool ((mendR aw2 4).2).p.armed), (.int .i64 ((mendR aw2 4).2).p.left), (.int .i64 ((mendR aw2 4).2).p.uses)] 101 (0, 0))], [Hp.one tb49 (.cells #[(.pointer (some ⟨db3, 0, none⟩)), (.int .i64 4)] 98 (0, 0))], [Hp.one b36 (.cells #[(.int .i64 14)] 3 (0, 0))], [Hp.one tb11 (.cells #[(.pointer (some ⟨db3, 0, none⟩)), (.int .i64 4)] 98 (0, 0))], [Hp.one b25 (.cells #[(.int .i64 2), (.int .i64 7), (.slice none 0 0)] 36 (0, 0))], R] := hX57.of_all4
  refine s_op (o_move (v := (.tuple #[(.agg #[(.int .i64 ((pgOf (pgB ((mendR aw2 4).2).la (plc 2)) 2).1.1)), (.int .i64 ((pgOf (pgB ((mendR aw2 4).2).la (plc 2)) 2).1.2.1)), v54]), (.int .i64 ((pgOf (pgB ((mendR aw2 4).2).la (plc 2)) 2).2))])) rfl ?_)
  refine s_op (o_extract (v := (.agg #[(.int .i64 ((pgOf (pgB ((mendR aw2 4).2).la (plc 2)) 2).1.1)), (.int .i64 ((pgOf (pgB ((mendR aw2 4).2).la (plc 2)) 2).1.2.1)), v54])) rfl rfl ?_)
  refine s_op (o_extract (v := (.int .i64 ((pgOf (pgB ((mendR aw2 4).2).la (plc 2)) 2).2))) rfl rfl ?_)
  refine s_op (o_alloc (cs := #[(.int .i64 0), (.int .i64 0), (.slice none 0 0)]) ti36 rfl hH58 fun b60 w61 hH62 => ?_)
  refine s_eff (o_storeN (vs := [(.int .i64 ((pgOf (pgB ((mendR aw2 4).2).la (plc 2)) 2).1.1)), (.int .i64 ((pgOf (pgB ((mendR aw2 4).2).la (plc 2)) 2).1.2.1)), v54]) (c' := #[(.int .i64 ((pgOf (pgB ((mendR aw2 4).2).la (plc 2)) 2).1.1)), (.int .i64 ((pgOf (pgB ((mendR aw2 4).2).la (plc 2)) 2).1.2.1)), v54]) ti36 rfl rfl rfl rfl (by intro u hu; simp only [List.mem_cons, List.not_mem_nil, or_false] at hu; rcases hu with rfl | rfl | rfl <;> first | rfl | exact ho56.one) (by simp) (by kernel_rfl) (hH62.front 0 rfl) fun w63 hH64 => ?_)
  refine s_op (o_assign (v := (.int .i64 ((pgOf (pgB ((mendR aw2 4).2).la (plc 2)) 2).2))) rfl ?_)
  refine s_nil ?_
  refine t_norm (hK53 _ _ ?_)
  refine wp_seq_k fun K65 hK65 => ?_
  refine c_region ?_
  refine s_op (o_move (v := (.int .i64 (0 : Int))) rfl ?_)
  refine s_op (o_eql (a := (0 : Int)) (b := 0) rfl rfl ?_)
  refine s_op (o_move (v := (.bool (decide ((0 : Int) = 0)))) rfl ?_)
  by_cases h66 : (0 : Int) = 0
  · -- (0 : Int) = 0
    refine s_on 36 rfl (congrArg Value.bool (decide_eq_true h66)) (o_move (v := (.int .i64 ((stL aw0 4 [awA]).1))) rfl ?_)
    refine s_on 36 rfl (congrArg Value.bool (decide_eq_true h66)) (o_eql (a := (stL aw0 4 [awA]).1) (b := 6) rfl rfl ?_)
    refine s_op (o_pick_t (u := (.bool (decide ((stL aw0 4 [awA]).1 = 6)))) ((rfl : _ = _).trans (congrArg Value.bool (decide_eq_true h66))) rfl ?_)
    refine s_op (o_move (v := (.bool (decide ((stL aw0 4 [awA]).1 = 6)))) rfl ?_)
    by_cases h67 : (stL aw0 4 [awA]).1 = 6
    · -- (stL aw0 4 [awA]).1 = 6
      refine s_on 40 rfl (congrArg Value.bool (decide_eq_true h67)) (o_move (v := (.int .i64 (0 : Int))) rfl ?_)
      refine s_on 40 rfl (congrArg Value.bool (decide_eq_true h67)) (o_eql (a := (0 : Int)) (b := 0) rfl rfl ?_)
      refine s_op (o_pick_t (u := (.bool (decide ((0 : Int) = 0)))) ((rfl : _ = _).trans (congrArg Value.bool (decide_eq_true h67))) rfl ?_)
      refine s_op (o_move (v := (.bool (decide ((0 : Int) = 0)))) rfl ?_)
      refine s_on 44 rfl (congrArg Value.bool (decide_eq_true h66)) (o_move (v := (.int .i64 ((pgOf (pgB ((mendR aw2 4).2).la (plc 2)) 2).2))) rfl ?_)
      refine s_on 44 rfl (congrArg Value.bool (decide_eq_true h66)) (o_eql (a := (pgOf (pgB ((mendR aw2 4).2).la (plc 2)) 2).2) (b := 0) rfl rfl ?_)
      refine s_op (o_pick_t (u := (.bool (decide ((pgOf (pgB ((mendR aw2 4).2).la (plc 2)) 2).2 = 0)))) ((rfl : _ = _).trans (congrArg Value.bool (decide_eq_true h66))) rfl ?_)
      refine s_op (o_move (v := (.bool (decide ((pgOf (pgB ((mendR aw2 4).2).la (plc 2)) 2).2 = 0)))) rfl ?_)
      by_cases h68 : (pgOf (pgB ((mendR aw2 4).2).la (plc 2)) 2).2 = 0
      · -- (pgOf (pgB ((mendR aw2 4).2).la (plc 2)) 2).2 = 0
        refine s_on 48 rfl (congrArg Value.bool (decide_eq_true h68)) (o_fieldAddr (k := 1) (fun _ => by kernel_rfl) rfl ?_)
        refine s_on 48 rfl (congrArg Value.bool (decide_eq_true h68)) (o_load1 (v := (.int .i64 ((pgOf (pgB ((mendR aw2 4).2).la (plc 2)) 2).1.2.1))) Tryz.underlying3 rfl rfl hH64 (seg_sub 0 rfl) (CellsAt.one rfl) ?_)
        refine s_on 48 rfl (congrArg Value.bool (decide_eq_true h68)) (o_eql (a := (pgOf (pgB ((mendR aw2 4).2).la (plc 2)) 2).1.2.1) (b := 7) rfl rfl ?_)
        refine s_op (o_pick_t (u := (.bool (decide ((pgOf (pgB ((mendR aw2 4).2).la (plc 2)) 2).1.2.1 = 7)))) ((rfl : _ = _).trans (congrArg Value.bool (decide_eq_true h68))) rfl ?_)
        refine s_op (o_move (v := (.bool (decide ((pgOf (pgB ((mendR aw2 4).2).la (plc 2)) 2).1.2.1 = 7)))) rfl ?_)
        by_cases h69 : (pgOf (pgB ((mendR aw2 4).2).la (plc 2)) 2).1.2.1 = 7
        · -- (pgOf (pgB ((mendR aw2 4).2).la (plc 2)) 2).1.2.1 = 7
          refine s_on 53 rfl (congrArg Value.bool (decide_eq_true h69)) (o_move (v := (.pointer (some ⟨tb49, 0, none⟩))) rfl ?_)
          refine s_on 53 rfl (congrArg Value.bool (decide_eq_true h69)) (o_callf (vs := #[(.pointer (some ⟨tb49, 0, none⟩))]) ca28 rfl (args1 rfl) (tpages_c (db := db3) (n := 4) hH64.all ((CellsAt.one rfl).mono (seg_sub 4 rfl))) ?_)
          rintro _ w72 ⟨rfl, hX70⟩
          refine ⟨_, rfl, ?_⟩
          have hH71 := hX70.of_all
          refine s_on 53 rfl (congrArg Value.bool (decide_eq_true h69)) (o_eql (a := 4) (b := 4) rfl rfl ?_)
          refine s_op (o_pick_t (u := (.bool (decide ((4 : Int) = (4 : Int))))) ((rfl : _ = _).trans (congrArg Value.bool (decide_eq_true h69))) rfl ?_)
          refine s_op (o_assign (v := (.bool (decide ((4 : Int) = (4 : Int))))) rfl ?_)
          refine s_nil ?_
          refine t_norm (hK65 _ _ ?_)
          refine wp_ret ?_
          refine c_ret1 Tryz.results11  (v := (.bool (decide ((4 : Int) = (4 : Int))))) rfl ?_
          have hH73 : Has E w72 [R] := (hH71.front 8 rfl).first 1 rfl
          exact ⟨by first | rfl | (rw [decide_eq_true (by decide)]), hH73⟩
        · -- not: (pgOf (pgB ((mendR aw2 4).2).la (plc 2)) 2).1.2.1 = 7
          exact absurd (by rw [aw_p]) h69
      · -- not: (pgOf (pgB ((mendR aw2 4).2).la (plc 2)) 2).2 = 0
        exact absurd (by rw [aw_p]) h68
    · -- not: (stL aw0 4 [awA]).1 = 6
      exact absurd aw_f h67
  · -- not: (0 : Int) = 0
    exact absurd (by decide) h66
end Go.Q
namespace Go.Q
theorem S_beq' (a b : List UInt8) : ((⟨a.toArray⟩ : ByteArray).toList == (⟨b.toArray⟩ : ByteArray).toList) = decide (a = b) := by
  rw [bytes_toList, bytes_toList]
  by_cases h : a = b
  · subst h; simp
  · rw [decide_eq_false h]; simpa using h
theorem part1 {P : Program} {t : TypeId} {d : TypeDesc} (ht : P.underlying t = some d) (hd : aggB d = false) {xs : Array Value} {o : Nat} {v : Value} (hv : xs[o]? = some v) (w : World) : (part t xs o).run P w = .ok v w := by
  unfold part
  rw [Sem.run_bind, run_isAgg ht, hd]
  simp [hv]
theorem eqC_nil {P : Program} {d : Nat} {xs ys : Array Value} {w : World} : (Op.eqFields d xs ys []).run P w = .ok true w := rfl
theorem eqC_cons {P : Program} {d : Nat} {xs ys : Array Value} {f : Field} {fs : List Field} {a b : Value} {r r' : Bool} {w : World} {ft fo : Nat} (h : (f.type, f.offset, f.name == "_") = (ft, fo, false)) (ha : (part ft xs fo).run P w = .ok a w) (hb : (part ft ys fo).run P w = .ok b w)
    (he : (Op.equalIn d ft a b).run P w = .ok r w) (hk : (Op.eqFields d xs ys fs).run P w = .ok r' w) : (Op.eqFields d xs ys (f :: fs)).run P w = .ok (r && r') w := by
  simp only [Prod.mk.injEq] at h
  obtain ⟨rfl, rfl, hn⟩ := h
  have hn' : f.name ≠ "_" := by simpa using hn
  rw [Op.eqFields, if_pos hn']
  simp only [Sem.run_bind, ha, hb, he, Result.andThen_ok]
  cases r
  · simp
  · simpa using hk
theorem eqC_fields {P : Program} {d : Nat} {xs ys : Array Value} {r : Bool} {w : World} {l : List Field} {m : List (Nat × Nat × Bool)} (hf : l.map (fun f => (f.type, f.offset, f.name == "_")) = m) (h : ∀ l : List Field, l.map (fun f => (f.type, f.offset, f.name == "_")) = m → (Op.eqFields d xs ys l).run P w = .ok r w) :
    (Op.eqFields d xs ys l).run P w = .ok r w := h l hf
theorem eq_str {P : Program} {t : TypeId} (h : P.underlying t = some .string) (d : Nat) (a b : List UInt8) (w : World) : (Op.equalIn (d + 1) t (S a) (S b)).run P w = .ok (decide (a = b)) w := by
  unfold S; rw [run_equalIn_string w d t _ _ h, S_beq']
end Go.Q
namespace Go.Q
open Go.Proofs
set_option linter.unusedVariables false
set_option maxRecDepth 100000
def eqv70 (a0 : List UInt8) (a1 : List UInt8) (b0 : List UInt8) (b1 : List UInt8) : Bool := (decide (a0 = b0) && (decide (a1 = b1) && true))
theorem eqT70 (d : Nat) (w : World) (a0 : List UInt8) (a1 : List UInt8) (b0 : List UInt8) (b1 : List UInt8) : (Op.equalIn (d + 2) 70 (.agg #[(S a0), (S a1)]) (.agg #[(S b0), (S b1)])).run Tryz.prog w = .ok (eqv70 a0 a1 b0 b1) w := by
  rw [run_equalIn_struct w _ 70 _ _ (by kernel_rfl) (by kernel_rfl)]
  refine eqC_fields (m := [(9, 0, false), (9, 1, false)]) (by kernel_rfl) fun l hl => ?_
  obtain ⟨f0, l0, rfl, h0, hl⟩ := List.map_eq_cons_iff.1 hl
  refine eqC_cons (ft := 9) (fo := 0) (a := (S a0)) (b := (S b0)) h0 (part1 Tryz.underlying9 rfl (by kernel_rfl) w) (part1 Tryz.underlying9 rfl (by kernel_rfl) w) (eq_str Tryz.underlying9 (d + 0) _ _ w) ?_
  obtain ⟨f1, l1, rfl, h1, hl⟩ := List.map_eq_cons_iff.1 hl
  refine eqC_cons (ft := 9) (fo := 1) (a := (S a1)) (b := (S b1)) h1 (part1 Tryz.underlying9 rfl (by kernel_rfl) w) (part1 Tryz.underlying9 rfl (by kernel_rfl) w) (eq_str Tryz.underlying9 (d + 0) _ _ w) ?_
  obtain rfl := List.map_eq_nil_iff.1 hl
  exact eqC_nil
theorem o_neq70 {ρ : Operand → Value} {w : World} {K : Value → World → Prop} {dst : Option Tmp} {T : TypeId} {pos : String} {after : Array Edge} {g : Option (Nat × Bool)} {u : TypeId} {x y : Operand} (a0 : List UInt8) (a1 : List UInt8) (b0 : List UInt8) (b1 : List UInt8) (hx : ρ x = .agg #[(S a0), (S a1)]) (hy : ρ y = .agg #[(S b0), (S b1)]) (h : K (.bool (!(eqv70 a0 a1 b0 b1))) w) :
    OK Tryz.prog ⟨dst, .binOp .neq 70 x y u, T, pos, after, g⟩ ρ w K :=
  o_nex hx hy (run_eqGuard_agg w _ _ _ _ _ _ (by kernel_rfl)) rfl (eqT70 (9998) w a0 a1 b0 b1) h
theorem eqv70_iff (a0 : List UInt8) (a1 : List UInt8) (b0 : List UInt8) (b1 : List UInt8) : eqv70 a0 a1 b0 b1 = true ↔ a0 = b0 ∧ a1 = b1 := by
  unfold eqv70; simp
end Go.Q
namespace Go.Q
open Go.Proofs
set_option linter.unusedVariables false
set_option maxRecDepth 100000
attribute [local irreducible] wpList OK Code.wp
set_option maxHeartbeats 4000000 in
theorem rkey_c {E w : World} {R : List Hp} {k : Bs}  (hH : Has E w [R]) :
    Calls Tryz.prog 55 #[(S k)] w fun e w' => e = .returned (.bool (keyR k)) ∧ Has E w' [R] := by
  refine c_enter (args := [(S k)]) Tryz.func55 rfl Tryz.ntmps55 (by simp) ?_
  refine wp_seq_k fun K1 hK1 => ?_
  refine c_region ?_
  refine s_op (o_assign (v := (.bool false)) rfl ?_)
  refine s_nil ?_
  refine t_norm (hK1 _ _ ?_)
  refine wp_seq_k fun K2 hK2 => ?_
  refine c_region ?_
  refine s_op (o_move (v := (S k)) rfl ?_)
  refine s_op (o_slen Tryz.underlying9 rfl ?_)
  refine s_op (o_geq (a := (k.length : Int)) (b := 1) rfl rfl ?_)
  refine s_op (o_move (v := (.bool (decide (1 ≤ (k.length : Int))))) rfl ?_)
  by_cases h3 : 1 ≤ (k.length : Int)
  · -- 1 ≤ (k.length : Int)
    refine s_on 6 rfl (congrArg Value.bool (decide_eq_true h3)) (o_move (v := (S k)) rfl ?_)
    refine s_on 6 rfl (congrArg Value.bool (decide_eq_true h3)) (o_slen Tryz.underlying9 rfl ?_)
    refine s_on 6 rfl (congrArg Value.bool (decide_eq_true h3)) (o_leq (a := (k.length : Int)) (b := 8) rfl rfl ?_)
    refine s_op (o_pick_t (u := (.bool (decide ((k.length : Int) ≤ 8)))) ((rfl : _ = _).trans (congrArg Value.bool (decide_eq_true h3))) rfl ?_)
    refine s_op (o_assign (v := (.bool (decide ((k.length : Int) ≤ 8)))) rfl ?_)
    refine s_nil ?_
    refine t_norm (hK2 _ _ ?_)
    refine wp_ret ?_
    refine c_ret1 Tryz.results55  (v := (.bool (decide ((k.length : Int) ≤ 8)))) rfl ?_
    have q4 : (keyR k) = decide ((k.length : Int) ≤ 8) := by exact key_eq2 (by omega)
    exact ⟨by rw [q4], hH⟩
  · -- not: 1 ≤ (k.length : Int)
    refine s_off (b' := false) 6 rfl (congrArg Value.bool (decide_eq_false h3)) rfl ?_
    refine s_off (b' := false) 6 rfl (congrArg Value.bool (decide_eq_false h3)) rfl ?_
    refine s_off (b' := false) 6 rfl (congrArg Value.bool (decide_eq_false h3)) rfl ?_
    refine s_op (o_pick_f (u := (.bool false)) ((rfl : _ = _).trans (congrArg Value.bool (decide_eq_false h3))) rfl ?_)
    refine s_op (o_assign (v := (.bool false)) rfl ?_)
    refine s_nil ?_
    refine t_norm (hK2 _ _ ?_)
    refine wp_ret ?_
    refine c_ret1 Tryz.results55  (v := (.bool false)) rfl ?_
    have q5 : (keyR k) = false := by exact key_eq0 (by omega)
    exact ⟨by rw [q5], hH⟩
set_option maxHeartbeats 4000000 in
theorem r11right_c {E w : World} {R : List Hp} {no : Int} {gsn : Int} {v_l : Value} {l : List Cel}  (hH : Has E w [R]) (h_l : Sl R 2 v_l l.length (l.flatMap ceC)) :
    Calls Tryz.prog 17 #[(.agg #[(.int .i64 no), (.int .i64 gsn), v_l])] w fun e w' => e = .returned (.bool (pageR no gsn l)) ∧ Has E w' [R] := by
  have hn_ := h_l.le
  refine c_enter (args := [(.agg #[(.int .i64 no), (.int .i64 gsn), v_l])]) Tryz.func17 rfl Tryz.ntmps17 (by simp) ?_
  refine wp_seq_k fun K1 hK1 => ?_
  refine c_region ?_
  refine s_op (o_box (cs := #[(.int .i64 no), (.int .i64 gsn), v_l]) rfl rfl hH fun b2 w3 hH4 => ?_)
  refine s_op (o_assign (v := (.bool false)) rfl ?_)
  refine s_nil ?_
  refine t_norm (hK1 _ _ ?_)
  refine wp_seq_k fun K5 hK5 => ?_
  refine wp_seq_k fun K6 hK6 => ?_
  refine c_region ?_
  refine s_op (o_fieldAddr (k := 0) (fun _ => by kernel_rfl) rfl ?_)
  refine s_op (o_load1 (v := (.int .i64 no)) Tryz.underlying3 rfl rfl hH4 (seg_sub 0 rfl) (CellsAt.one rfl) ?_)
  refine s_op (o_lss (a := no) (b := 0) rfl rfl ?_)
  refine s_op (o_move (v := (.bool (decide (no < 0)))) rfl ?_)
  by_cases h7 : no < 0
  · -- no < 0
    refine s_off (b' := true) 7 rfl (congrArg Value.bool (decide_eq_true h7)) rfl ?_
    refine s_off (b' := true) 7 rfl (congrArg Value.bool (decide_eq_true h7)) rfl ?_
    refine s_off (b' := true) 7 rfl (congrArg Value.bool (decide_eq_true h7)) rfl ?_
    refine s_op (o_pick_t (u := (.bool true)) ((rfl : _ = _).trans (congrArg Value.bool (decide_eq_true h7))) rfl ?_)
    refine s_op (o_move (v := (.bool true)) rfl ?_)
    refine s_off (b' := true) 12 rfl rfl rfl ?_
    refine s_off (b' := true) 12 rfl rfl rfl ?_
    refine s_off (b' := true) 12 rfl rfl rfl ?_
    refine s_op (o_pick_t (u := (.bool true)) rfl rfl ?_)
    refine s_op (o_move (v := (.bool true)) rfl ?_)
    refine s_off (b' := true) 17 rfl rfl rfl ?_
    refine s_off (b' := true) 17 rfl rfl rfl ?_
    refine s_off (b' := true) 17 rfl rfl rfl ?_
    refine s_op (o_pick_t (u := (.bool true)) rfl rfl ?_)
    refine s_op (o_move (v := (.bool true)) rfl ?_)
    refine s_off (b' := true) 22 rfl rfl rfl ?_
    refine s_off (b' := true) 22 rfl rfl rfl ?_
    refine s_off (b' := true) 22 rfl rfl rfl ?_
    refine s_off (b' := true) 22 rfl rfl rfl ?_
    refine s_op (o_pick_t (u := (.bool true)) rfl rfl ?_)
    refine s_nil ?_
    refine t_norm (hK6 _ _ ?_)
    refine c_true rfl rfl ?_
    refine wp_seq_k fun K8 hK8 => ?_
    refine c_region ?_
    refine s_op (o_assign (v := (.bool false)) rfl ?_)
    refine s_nil ?_
    refine t_norm (hK8 _ _ ?_)
    refine wp_ret ?_
    refine t_ret (c_ret1 Tryz.results17  (v := (.bool false)) rfl ?_)
    have q9 : (pageR no gsn l) = false := by exact pageR_no (by first | exact .inl (by omega) | exact .inr (by omega))
    have hH10 : Has E w3 [R] := (hH4.front 1 rfl).first 1 rfl
    exact ⟨by rw [q9], hH10⟩
  · -- not: no < 0
    refine s_on 7 rfl (congrArg Value.bool (decide_eq_false h7)) (o_fieldAddr (k := 0) (fun _ => by kernel_rfl) rfl ?_)
    refine s_on 7 rfl (congrArg Value.bool (decide_eq_false h7)) (o_load1 (v := (.int .i64 no)) Tryz.underlying3 rfl rfl hH4 (seg_sub 0 rfl) (CellsAt.one rfl) ?_)
    refine s_on 7 rfl (congrArg Value.bool (decide_eq_false h7)) (o_gtr (a := no) (b := 63) rfl rfl ?_)
    refine s_op (o_pick_f (u := (.bool (decide (63 < no)))) ((rfl : _ = _).trans (congrArg Value.bool (decide_eq_false h7))) rfl ?_)
    refine s_op (o_move (v := (.bool (decide (63 < no)))) rfl ?_)
    by_cases h11 : 63 < no
    · -- 63 < no
      refine s_off (b' := true) 12 rfl (congrArg Value.bool (decide_eq_true h11)) rfl ?_
      refine s_off (b' := true) 12 rfl (congrArg Value.bool (decide_eq_true h11)) rfl ?_
      refine s_off (b' := true) 12 rfl (congrArg Value.bool (decide_eq_true h11)) rfl ?_
      refine s_op (o_pick_t (u := (.bool true)) ((rfl : _ = _).trans (congrArg Value.bool (decide_eq_true h11))) rfl ?_)
      refine s_op (o_move (v := (.bool true)) rfl ?_)
      refine s_off (b' := true) 17 rfl rfl rfl ?_
      refine s_off (b' := true) 17 rfl rfl rfl ?_
      refine s_off (b' := true) 17 rfl rfl rfl ?_
      refine s_op (o_pick_t (u := (.bool true)) rfl rfl ?_)
      refine s_op (o_move (v := (.bool true)) rfl ?_)
      refine s_off (b' := true) 22 rfl rfl rfl ?_
      refine s_off (b' := true) 22 rfl rfl rfl ?_
      refine s_off (b' := true) 22 rfl rfl rfl ?_
      refine s_off (b' := true) 22 rfl rfl rfl ?_
      refine s_op (o_pick_t (u := (.bool true)) rfl rfl ?_)
      refine s_nil ?_
      refine t_norm (hK6 _ _ ?_)
      refine c_true rfl rfl ?_
      refine wp_seq_k fun K12 hK12 => ?_
      refine c_region ?_
      refine s_op (o_assign (v := (.bool false)) rfl ?_)
      refine s_nil ?_
      refine t_norm (hK12 _ _ ?_)
      refine wp_ret ?_
      refine t_ret (c_ret1 Tryz.results17  (v := (.bool false)) rfl ?_)
      have q13 : (pageR no gsn l) = false := by exact pageR_no (by first | exact .inl (by omega) | exact .inr (by omega))
      have hH14 : Has E w3 [R] := (hH4.front 1 rfl).first 1 rfl
      exact ⟨by rw [q13], hH14⟩
    · -- not: 63 < no
      refine s_on 12 rfl (congrArg Value.bool (decide_eq_false h11)) (o_fieldAddr (k := 1) (fun _ => by kernel_rfl) rfl ?_)
      refine s_on 12 rfl (congrArg Value.bool (decide_eq_false h11)) (o_load1 (v := (.int .i64 gsn)) Tryz.underlying3 rfl rfl hH4 (seg_sub 0 rfl) (CellsAt.one rfl) ?_)
      refine s_on 12 rfl (congrArg Value.bool (decide_eq_false h11)) (o_lss (a := gsn) (b := 0) rfl rfl ?_)
      refine s_op (o_pick_f (u := (.bool (decide (gsn < 0)))) ((rfl : _ = _).trans (congrArg Value.bool (decide_eq_false h11))) rfl ?_)
      refine s_op (o_move (v := (.bool (decide (gsn < 0)))) rfl ?_)
      by_cases h15 : gsn < 0
      · -- gsn < 0
        refine s_off (b' := true) 17 rfl (congrArg Value.bool (decide_eq_true h15)) rfl ?_
        refine s_off (b' := true) 17 rfl (congrArg Value.bool (decide_eq_true h15)) rfl ?_
        refine s_off (b' := true) 17 rfl (congrArg Value.bool (decide_eq_true h15)) rfl ?_
        refine s_op (o_pick_t (u := (.bool true)) ((rfl : _ = _).trans (congrArg Value.bool (decide_eq_true h15))) rfl ?_)
        refine s_op (o_move (v := (.bool true)) rfl ?_)
        refine s_off (b' := true) 22 rfl rfl rfl ?_
        refine s_off (b' := true) 22 rfl rfl rfl ?_
        refine s_off (b' := true) 22 rfl rfl rfl ?_
        refine s_off (b' := true) 22 rfl rfl rfl ?_
        refine s_op (o_pick_t (u := (.bool true)) rfl rfl ?_)
        refine s_nil ?_
        refine t_norm (hK6 _ _ ?_)
        refine c_true rfl rfl ?_
        refine wp_seq_k fun K16 hK16 => ?_
        refine c_region ?_
        refine s_op (o_assign (v := (.bool false)) rfl ?_)
        refine s_nil ?_
        refine t_norm (hK16 _ _ ?_)
        refine wp_ret ?_
        refine t_ret (c_ret1 Tryz.results17  (v := (.bool false)) rfl ?_)
        have q17 : (pageR no gsn l) = false := by exact pageR_no (by first | exact .inl (by omega) | exact .inr (by omega))
        have hH18 : Has E w3 [R] := (hH4.front 1 rfl).first 1 rfl
        exact ⟨by rw [q17], hH18⟩
      · -- not: gsn < 0
        refine s_on 17 rfl (congrArg Value.bool (decide_eq_false h15)) (o_fieldAddr (k := 1) (fun _ => by kernel_rfl) rfl ?_)
        refine s_on 17 rfl (congrArg Value.bool (decide_eq_false h15)) (o_load1 (v := (.int .i64 gsn)) Tryz.underlying3 rfl rfl hH4 (seg_sub 0 rfl) (CellsAt.one rfl) ?_)
        refine s_on 17 rfl (congrArg Value.bool (decide_eq_false h15)) (o_geq (a := gsn) (b := 4611686018427387904) rfl rfl ?_)
        refine s_op (o_pick_f (u := (.bool (decide (4611686018427387904 ≤ gsn)))) ((rfl : _ = _).trans (congrArg Value.bool (decide_eq_false h15))) rfl ?_)
        refine s_op (o_move (v := (.bool (decide (4611686018427387904 ≤ gsn)))) rfl ?_)
        by_cases h19 : 4611686018427387904 ≤ gsn
        · -- 4611686018427387904 ≤ gsn
          refine s_off (b' := true) 22 rfl (congrArg Value.bool (decide_eq_true h19)) rfl ?_
          refine s_off (b' := true) 22 rfl (congrArg Value.bool (decide_eq_true h19)) rfl ?_
          refine s_off (b' := true) 22 rfl (congrArg Value.bool (decide_eq_true h19)) rfl ?_
          refine s_off (b' := true) 22 rfl (congrArg Value.bool (decide_eq_true h19)) rfl ?_
          refine s_op (o_pick_t (u := (.bool true)) ((rfl : _ = _).trans (congrArg Value.bool (decide_eq_true h19))) rfl ?_)
          refine s_nil ?_
          refine t_norm (hK6 _ _ ?_)
          refine c_true rfl rfl ?_
          refine wp_seq_k fun K20 hK20 => ?_
          refine c_region ?_
          refine s_op (o_assign (v := (.bool false)) rfl ?_)
          refine s_nil ?_
          refine t_norm (hK20 _ _ ?_)
          refine wp_ret ?_
          refine t_ret (c_ret1 Tryz.results17  (v := (.bool false)) rfl ?_)
          have q21 : (pageR no gsn l) = false := by exact pageR_no (by first | exact .inl (by omega) | exact .inr (by omega))
          have hH22 : Has E w3 [R] := (hH4.front 1 rfl).first 1 rfl
          exact ⟨by rw [q21], hH22⟩
        · -- not: 4611686018427387904 ≤ gsn
          refine s_on 22 rfl (congrArg Value.bool (decide_eq_false h19)) (o_fieldAddr (k := 2) (fun _ => by kernel_rfl) rfl ?_)
          refine s_on 22 rfl (congrArg Value.bool (decide_eq_false h19)) (o_load1 (v := v_l) Tryz.underlying34 rfl rfl hH4 (seg_sub 0 rfl) (CellsAt.one rfl) ?_)
          refine s_on 22 rfl (congrArg Value.bool (decide_eq_false h19)) (o_lenS Tryz.underlying34 rfl h_l ?_)
          refine s_on 22 rfl (congrArg Value.bool (decide_eq_false h19)) (o_gtr (a := ((l.length : Nat) : Int)) (b := 8) rfl rfl ?_)
          refine s_op (o_pick_f (u := (.bool (decide (8 < ((l.length : Nat) : Int))))) ((rfl : _ = _).trans (congrArg Value.bool (decide_eq_false h19))) rfl ?_)
          refine s_nil ?_
          refine t_norm (hK6 _ _ ?_)
          refine c_cond rfl (fun h23 => ?_) (fun h23 => ?_)
          · -- 8 < ((l.length : Nat) : Int)
            refine wp_seq_k fun K24 hK24 => ?_
            refine c_region ?_
            refine s_op (o_assign (v := (.bool false)) rfl ?_)
            refine s_nil ?_
            refine t_norm (hK24 _ _ ?_)
            refine wp_ret ?_
            refine t_ret (c_ret1 Tryz.results17  (v := (.bool false)) rfl ?_)
            have q25 : (pageR no gsn l) = false := by exact pageR_no (by first | exact .inl (by omega) | exact .inr (by omega))
            have hH26 : Has E w3 [R] := (hH4.front 1 rfl).first 1 rfl
            exact ⟨by rw [q25], hH26⟩
          · -- not: 8 < ((l.length : Nat) : Int)
            refine wp_skip ?_
            refine t_norm (hK5 _ _ ?_)
            refine wp_seq_k fun K27 hK27 => ?_
            refine wp_seq_k fun K28 hK28 => ?_
            refine c_region ?_
            refine s_op (o_assign (v := (.int .i64 0)) rfl ?_)
            refine s_nil ?_
            refine t_norm (hK28 _ _ ?_)
            refine wp_block ?_
            let I30 : Nat → (Nat → Value) → World → Prop := fun n__ r__ w__ => ∃ (k : Nat), n__ = l.length - k ∧ Has E w__ [[Hp.one b2 (.cells #[(.int .i64 no), (.int .i64 gsn), v_l] 36 (0, 0))], R] ∧ (k ≤ l.length) ∧ ((l.take k).all celOk = true) ∧ (Rises (l.take k)) ∧ r__ 0 = (.agg #[(.int .i64 no), (.int .i64 gsn), v_l]) ∧ r__ 1 = (.pointer (some ⟨b2, 0, none⟩)) ∧ r__ 3 = (.int .i64 (k : Int)) ∧ r__ 27 = (.bool (decide (8 < ((l.length : Nat) : Int))))
            refine c_loop I30 _ ⟨0, rfl, hH4, Nat.zero_le _, rfl, List.Pairwise.nil, rfl, rfl, rfl, rfl⟩ ?_
            rintro n_ r33 w31 ⟨k, rfl, hH32, hk, ha, hr, e29_0, e29_1, e29_3, e29_27⟩
            refine wp_seq_k fun K34 hK34 => ?_
            refine wp_seq_k fun K35 hK35 => ?_
            refine c_region ?_
            refine s_op (o_move (v := (.int .i64 (k : Int))) e29_3 ?_)
            refine s_op (o_fieldAddr (k := 2) (fun _ => by kernel_rfl) e29_1 ?_)
            refine s_op (o_load1 (v := v_l) Tryz.underlying34 rfl rfl hH32 (seg_sub 0 rfl) (CellsAt.one rfl) ?_)
            refine s_op (o_lenS Tryz.underlying34 rfl h_l ?_)
            refine s_op (o_lss (a := (k : Int)) (b := ((l.length : Nat) : Int)) rfl rfl ?_)
            refine s_nil ?_
            refine t_norm (hK35 _ _ ?_)
            refine c_cond rfl (fun h36 => ?_) (fun h36 => ?_)
            · -- (k : Int) < ((l.length : Nat) : Int)
              refine wp_skip ?_
              refine t_norm (hK34 _ _ ?_)
              refine wp_seq_k fun K37 hK37 => ?_
              refine wp_block ?_
              refine wp_seq_k fun K38 hK38 => ?_
              refine Rest.region mixed (by kernel_rfl) ?_
              have hH39 : Has E { w31 with drawn := w31.drawn + 1 } [[Hp.one b2 (.cells #[(.int .i64 no), (.int .i64 gsn), v_l] 36 (0, 0))], R] := Has0.drew hH32 _
              refine Rest.phaseA (fun w_ => Has E w_ [[Hp.one b2 (.cells #[(.int .i64 no), (.int .i64 gsn), v_l] 36 (0, 0))]]) 0 3 3 rfl (by decide) (by kernel_rfl) ?_
              refine a_op 0 rfl (by kernel_rfl) (fun w_ h_ => o_fieldAddr (k := 2) (fun _ => by kernel_rfl) e29_1 ⟨rfl, rfl⟩) ?_
              refine a_op 1 rfl (by kernel_rfl) (fun w_ h_ => o_load1 (v := v_l) Tryz.underlying34 rfl rfl h_ (seg_sub 0 rfl) (CellsAt.one rfl) ⟨rfl, rfl⟩) ?_
              refine a_op 2 rfl (by kernel_rfl) (fun w_ h_ => o_move (v := (.int .i64 (k : Int))) e29_3 ⟨rfl, rfl⟩) ?_
              have hH40 : Has E { w31 with drawn := w31.drawn + 1 } [[Hp.one b2 (.cells #[(.int .i64 no), (.int .i64 gsn), v_l] 36 (0, 0))]] := hH39.first 1 rfl
              refine a_done (by kernel_rfl) hH40 ?_
              obtain ⟨x44, hx45⟩ : ∃ x_, l[((k : Int)).toNat]? = some x_ := get_some (by omega)
              refine r_op 3 rfl (by kernel_rfl) (o_indexF ceC_len Tryz.underlying34 ti70 rfl h_l rfl rfl (by omega) hx45 fun b41 o42 hc43 => ?_)
              refine r_op 4 rfl (by kernel_rfl) (o_fieldAddr (k := o42) (fun _ => by kernel_rfl) rfl ?_)
              refine r_op 5 rfl (by kernel_rfl) (o_load1 (v := (S x44.1)) Tryz.underlying9 rfl rfl hH39 (seg_sub 1 rfl) (CellsAt.field (k := 0) (ds := [(S x44.1)]) hc43 rfl) ?_)
              refine r_op 6 rfl (by kernel_rfl) (o_callf (vs := #[(S x44.1)]) ca55 rfl (args1 rfl) (rkey_c (k := x44.1) hH39.all ) ?_)
              rintro _ w48 ⟨rfl, hX46⟩
              refine ⟨_, rfl, ?_⟩
              have hH47 := hX46.of_all
              refine r_op 7 rfl (by kernel_rfl) (o_not rfl ?_)
              refine r_op 8 rfl (by kernel_rfl) (o_move (v := (.bool (!(keyR x44.1)))) rfl ?_)
              refine Rest.phaseA (fun w_ => Has E w_ [[Hp.one b2 (.cells #[(.int .i64 no), (.int .i64 gsn), v_l] 36 (0, 0))]]) 9 12 3 rfl (by decide) (by kernel_rfl) ?_
              rcases Bool.eq_false_or_eq_true (!(keyR x44.1)) with h49 | h49
              · -- !(keyR x44.1)
                refine a_off (b' := true) 9 rfl (by kernel_rfl) 43 rfl (congrArg Value.bool h49) rfl ?_
                refine a_off (b' := true) 10 rfl (by kernel_rfl) 43 rfl (congrArg Value.bool h49) rfl ?_
                refine a_off (b' := true) 11 rfl (by kernel_rfl) 43 rfl (congrArg Value.bool h49) rfl ?_
                have hH50 : Has E w48 [[Hp.one b2 (.cells #[(.int .i64 no), (.int .i64 gsn), v_l] 36 (0, 0))]] := hH47.first 1 rfl
                refine a_done (by kernel_rfl) hH50 ?_
                refine r_off (b' := true) 12 rfl (by kernel_rfl) 43 rfl (congrArg Value.bool h49) rfl ?_
                refine r_off (b' := true) 13 rfl (by kernel_rfl) 43 rfl (congrArg Value.bool h49) rfl ?_
                refine r_off (b' := true) 14 rfl (by kernel_rfl) 43 rfl (congrArg Value.bool h49) rfl ?_
                refine r_off (b' := true) 15 rfl (by kernel_rfl) 43 rfl (congrArg Value.bool h49) rfl ?_
                refine r_off (b' := true) 16 rfl (by kernel_rfl) 43 rfl (congrArg Value.bool h49) rfl ?_
                refine r_op 17 rfl (by kernel_rfl) (o_pick_t (u := (.bool true)) ((rfl : _ = _).trans (congrArg Value.bool h49)) rfl ?_)
                refine r_op 18 rfl (by kernel_rfl) (o_move (v := (.bool true)) rfl ?_)
                refine r_off (b' := true) 19 rfl (by kernel_rfl) 53 rfl rfl rfl ?_
                refine r_off (b' := true) 20 rfl (by kernel_rfl) 53 rfl rfl rfl ?_
                refine r_off (b' := true) 21 rfl (by kernel_rfl) 53 rfl rfl rfl ?_
                refine Rest.phaseA (fun w_ => Has E w_ []) 22 35 13 rfl (by decide) (by kernel_rfl) ?_
                refine a_offu 22 rfl (by kernel_rfl) 56 rfl rfl ?_
                refine a_offu 23 rfl (by kernel_rfl) 56 rfl rfl ?_
                refine a_offu 24 rfl (by kernel_rfl) 56 rfl rfl ?_
                refine a_offu 25 rfl (by kernel_rfl) 56 rfl rfl ?_
                refine a_offu 26 rfl (by kernel_rfl) 56 rfl rfl ?_
                refine a_offu 27 rfl (by kernel_rfl) 56 rfl rfl ?_
                refine a_offu 28 rfl (by kernel_rfl) 56 rfl rfl ?_
                refine a_offu 29 rfl (by kernel_rfl) 56 rfl rfl ?_
                refine a_offu 30 rfl (by kernel_rfl) 56 rfl rfl ?_
                refine a_offu 31 rfl (by kernel_rfl) 56 rfl rfl ?_
                refine a_offu 32 rfl (by kernel_rfl) 56 rfl rfl ?_
                refine a_offu 33 rfl (by kernel_rfl) 56 rfl rfl ?_
                refine a_offu 34 rfl (by kernel_rfl) 56 rfl rfl ?_
                have hH51 : Has E w48 [] := hH47.first 0 rfl
                refine a_done (by kernel_rfl) hH51 ?_
                refine r_offu 35 rfl (by kernel_rfl) 56 rfl rfl ?_
                refine r_off (b' := true) 36 rfl (by kernel_rfl) 53 rfl rfl rfl ?_
                refine r_op 37 rfl (by kernel_rfl) (o_pick_t (u := (.bool true)) rfl rfl ?_)
                refine Rest.done (by kernel_rfl) ?_
                refine t_norm (hK38 _ _ ?_)
                refine c_true rfl rfl ?_
                refine wp_seq_k fun K52 hK52 => ?_
                refine c_region ?_
                refine s_op (o_assign (v := (.bool false)) rfl ?_)
                refine s_nil ?_
                refine t_norm (hK52 _ _ ?_)
                refine wp_ret ?_
                refine b_ret (t_ret (t_ret (b_ret (t_ret (c_ret1 Tryz.results17  (v := (.bool false)) rfl ?_)))))
                have q53 : (pageR no gsn l) = false := by exact pageR_nc (cells_no1 hx45 (by simp only [celOk]; rw [show keyR x44.1 = false by simpa using h49]; rfl))
                have hH54 : Has E w48 [R] := (hH47.front 1 rfl).first 1 rfl
                exact ⟨by rw [q53], hH54⟩
              · -- not: !(keyR x44.1)
                refine a_on 9 rfl (by kernel_rfl) 43 rfl (congrArg Value.bool h49) (fun w_ h_ => o_fieldAddr (k := 2) (fun _ => by kernel_rfl) e29_1 ⟨rfl, rfl⟩) ?_
                refine a_on 10 rfl (by kernel_rfl) 43 rfl (congrArg Value.bool h49) (fun w_ h_ => o_load1 (v := v_l) Tryz.underlying34 rfl rfl h_ (seg_sub 0 rfl) (CellsAt.one rfl) ⟨rfl, rfl⟩) ?_
                refine a_on 11 rfl (by kernel_rfl) 43 rfl (congrArg Value.bool h49) (fun w_ h_ => o_move (v := (.int .i64 (k : Int))) e29_3 ⟨rfl, rfl⟩) ?_
                have hH55 : Has E w48 [[Hp.one b2 (.cells #[(.int .i64 no), (.int .i64 gsn), v_l] 36 (0, 0))]] := hH47.first 1 rfl
                refine a_done (by kernel_rfl) hH55 ?_
                refine r_on 12 rfl (by kernel_rfl) 43 rfl (congrArg Value.bool h49) (o_indexF ceC_len Tryz.underlying34 ti70 rfl h_l rfl rfl (by omega) hx45 fun b56 o57 hc58 => ?_)
                refine r_on 13 rfl (by kernel_rfl) 43 rfl (congrArg Value.bool h49) (o_fieldAddr (k := o57 + 1) (fun _ => by kernel_rfl) rfl ?_)
                refine r_on 14 rfl (by kernel_rfl) 43 rfl (congrArg Value.bool h49) (o_load1 (v := (S x44.2)) Tryz.underlying9 rfl rfl hH47 (seg_sub 1 rfl) (CellsAt.field (k := 1) (ds := [(S x44.2)]) hc58 rfl) ?_)
                refine r_on 15 rfl (by kernel_rfl) 43 rfl (congrArg Value.bool h49) (o_slen Tryz.underlying9 rfl ?_)
                refine r_on 16 rfl (by kernel_rfl) 43 rfl (congrArg Value.bool h49) (o_gtr (a := (x44.2.length : Int)) (b := 16) rfl rfl ?_)
                refine r_op 17 rfl (by kernel_rfl) (o_pick_f (u := (.bool (decide (16 < (x44.2.length : Int))))) ((rfl : _ = _).trans (congrArg Value.bool h49)) rfl ?_)
                refine r_op 18 rfl (by kernel_rfl) (o_move (v := (.bool (decide (16 < (x44.2.length : Int))))) rfl ?_)
                by_cases h59 : 16 < (x44.2.length : Int)
                · -- 16 < (x44.2.length : Int)
                  refine r_off (b' := true) 19 rfl (by kernel_rfl) 53 rfl (congrArg Value.bool (decide_eq_true h59)) rfl ?_
                  refine r_off (b' := true) 20 rfl (by kernel_rfl) 53 rfl (congrArg Value.bool (decide_eq_true h59)) rfl ?_
                  refine r_off (b' := true) 21 rfl (by kernel_rfl) 53 rfl (congrArg Value.bool (decide_eq_true h59)) rfl ?_
                  refine Rest.phaseA (fun w_ => Has E w_ []) 22 35 13 rfl (by decide) (by kernel_rfl) ?_
                  refine a_offu 22 rfl (by kernel_rfl) 56 rfl rfl ?_
                  refine a_offu 23 rfl (by kernel_rfl) 56 rfl rfl ?_
                  refine a_offu 24 rfl (by kernel_rfl) 56 rfl rfl ?_
                  refine a_offu 25 rfl (by kernel_rfl) 56 rfl rfl ?_
                  refine a_offu 26 rfl (by kernel_rfl) 56 rfl rfl ?_
                  refine a_offu 27 rfl (by kernel_rfl) 56 rfl rfl ?_
                  refine a_offu 28 rfl (by kernel_rfl) 56 rfl rfl ?_
                  refine a_offu 29 rfl (by kernel_rfl) 56 rfl rfl ?_
                  refine a_offu 30 rfl (by kernel_rfl) 56 rfl rfl ?_
                  refine a_offu 31 rfl (by kernel_rfl) 56 rfl rfl ?_
                  refine a_offu 32 rfl (by kernel_rfl) 56 rfl rfl ?_
                  refine a_offu 33 rfl (by kernel_rfl) 56 rfl rfl ?_
                  refine a_offu 34 rfl (by kernel_rfl) 56 rfl rfl ?_
                  have hH60 : Has E w48 [] := hH47.first 0 rfl
                  refine a_done (by kernel_rfl) hH60 ?_
                  refine r_offu 35 rfl (by kernel_rfl) 56 rfl rfl ?_
                  refine r_off (b' := true) 36 rfl (by kernel_rfl) 53 rfl (congrArg Value.bool (decide_eq_true h59)) rfl ?_
                  refine r_op 37 rfl (by kernel_rfl) (o_pick_t (u := (.bool true)) ((rfl : _ = _).trans (congrArg Value.bool (decide_eq_true h59))) rfl ?_)
                  refine Rest.done (by kernel_rfl) ?_
                  refine t_norm (hK38 _ _ ?_)
                  refine c_true rfl rfl ?_
                  refine wp_seq_k fun K61 hK61 => ?_
                  refine c_region ?_
                  refine s_op (o_assign (v := (.bool false)) rfl ?_)
                  refine s_nil ?_
                  refine t_norm (hK61 _ _ ?_)
                  refine wp_ret ?_
                  refine b_ret (t_ret (t_ret (b_ret (t_ret (c_ret1 Tryz.results17  (v := (.bool false)) rfl ?_)))))
                  have q62 : (pageR no gsn l) = false := by exact pageR_nc (cells_no1 hx45 (by simp only [celOk]; rw [show valR (true, x44.2) = false by unfold valR; simp; omega]; simp))
                  have hH63 : Has E w48 [R] := (hH47.front 1 rfl).first 1 rfl
                  exact ⟨by rw [q62], hH63⟩
                · -- not: 16 < (x44.2.length : Int)
                  refine r_on 19 rfl (by kernel_rfl) 53 rfl (congrArg Value.bool (decide_eq_false h59)) (o_move (v := (.int .i64 (k : Int))) e29_3 ?_)
                  refine r_on 20 rfl (by kernel_rfl) 53 rfl (congrArg Value.bool (decide_eq_false h59)) (o_gtr (a := (k : Int)) (b := 0) rfl rfl ?_)
                  refine r_on 21 rfl (by kernel_rfl) 53 rfl (congrArg Value.bool (decide_eq_false h59)) (o_move (v := (.bool (decide (0 < (k : Int))))) rfl ?_)
                  refine Rest.phaseA (fun w_ => Has E w_ [[Hp.one b2 (.cells #[(.int .i64 no), (.int .i64 gsn), v_l] 36 (0, 0))], R]) 22 35 13 rfl (by decide) (by kernel_rfl) ?_
                  by_cases h64 : 0 < (k : Int)
                  · -- 0 < (k : Int)
                    refine a_on 22 rfl (by kernel_rfl) 56 rfl (congrArg Value.bool (decide_eq_true h64)) (fun w_ h_ => o_fieldAddr (k := 2) (fun _ => by kernel_rfl) e29_1 ⟨rfl, rfl⟩) ?_
                    refine a_on 23 rfl (by kernel_rfl) 56 rfl (congrArg Value.bool (decide_eq_true h64)) (fun w_ h_ => o_load1 (v := v_l) Tryz.underlying34 rfl rfl h_ (seg_sub 0 rfl) (CellsAt.one rfl) ⟨rfl, rfl⟩) ?_
                    refine a_on 24 rfl (by kernel_rfl) 56 rfl (congrArg Value.bool (decide_eq_true h64)) (fun w_ h_ => o_move (v := (.int .i64 (k : Int))) e29_3 ⟨rfl, rfl⟩) ?_
                    refine a_on 25 rfl (by kernel_rfl) 56 rfl (congrArg Value.bool (decide_eq_true h64)) (fun w_ h_ => o_sub (a := (k : Int)) (b := 1) rfl rfl (w64 (by omega) (by omega)) ⟨rfl, rfl⟩) ?_
                    obtain ⟨x68, hx69⟩ : ∃ x_, l[((k : Int) - 1).toNat]? = some x_ := get_some (by omega)
                    obtain ⟨b65, o66, hc67, ho70⟩ := ix_exF ceC_len Tryz.underlying34 ti70 h_l (by omega) hx69
                    refine a_on 26 rfl (by kernel_rfl) 56 rfl (congrArg Value.bool (decide_eq_true h64)) (fun w_ h_ => ho70 rfl rfl ⟨rfl, rfl⟩) ?_
                    refine a_on 27 rfl (by kernel_rfl) 56 rfl (congrArg Value.bool (decide_eq_true h64)) (fun w_ h_ => o_fieldAddr (k := o66) (fun _ => by kernel_rfl) rfl ⟨rfl, rfl⟩) ?_
                    refine a_on 28 rfl (by kernel_rfl) 56 rfl (congrArg Value.bool (decide_eq_true h64)) (fun w_ h_ => o_load1 (v := (S x68.1)) Tryz.underlying9 rfl rfl h_ (seg_sub 1 rfl) (CellsAt.field (k := 0) (ds := [(S x68.1)]) hc67 rfl) ⟨rfl, rfl⟩) ?_
                    refine a_on 29 rfl (by kernel_rfl) 56 rfl (congrArg Value.bool (decide_eq_true h64)) (fun w_ h_ => o_fieldAddr (k := 2) (fun _ => by kernel_rfl) e29_1 ⟨rfl, rfl⟩) ?_
                    refine a_on 30 rfl (by kernel_rfl) 56 rfl (congrArg Value.bool (decide_eq_true h64)) (fun w_ h_ => o_load1 (v := v_l) Tryz.underlying34 rfl rfl h_ (seg_sub 0 rfl) (CellsAt.one rfl) ⟨rfl, rfl⟩) ?_
                    refine a_on 31 rfl (by kernel_rfl) 56 rfl (congrArg Value.bool (decide_eq_true h64)) (fun w_ h_ => o_move (v := (.int .i64 (k : Int))) e29_3 ⟨rfl, rfl⟩) ?_
                    obtain ⟨b71, o72, hc73, ho74⟩ := ix_exF ceC_len Tryz.underlying34 ti70 h_l (by omega) hx45
                    refine a_on 32 rfl (by kernel_rfl) 56 rfl (congrArg Value.bool (decide_eq_true h64)) (fun w_ h_ => ho74 rfl rfl ⟨rfl, rfl⟩) ?_
                    refine a_on 33 rfl (by kernel_rfl) 56 rfl (congrArg Value.bool (decide_eq_true h64)) (fun w_ h_ => o_fieldAddr (k := o72) (fun _ => by kernel_rfl) rfl ⟨rfl, rfl⟩) ?_
                    refine a_on 34 rfl (by kernel_rfl) 56 rfl (congrArg Value.bool (decide_eq_true h64)) (fun w_ h_ => o_load1 (v := (S x44.1)) Tryz.underlying9 rfl rfl h_ (seg_sub 1 rfl) (CellsAt.field (k := 0) (ds := [(S x44.1)]) hc73 rfl) ⟨rfl, rfl⟩) ?_
                    refine a_done (by kernel_rfl) hH47 ?_
                    refine r_on 35 rfl (by kernel_rfl) 56 rfl (congrArg Value.bool (decide_eq_true h64)) (o_sgeP (a := x68.1) (b := x44.1) rfl rfl ?_)
                    refine r_on 36 rfl (by kernel_rfl) 53 rfl (congrArg Value.bool (decide_eq_false h59)) (o_pick_t (u := (.bool (decide (¬ (x68.1 < x44.1))))) ((rfl : _ = _).trans (congrArg Value.bool (decide_eq_true h64))) rfl ?_)
                    refine r_op 37 rfl (by kernel_rfl) (o_pick_f (u := (.bool (decide (¬ (x68.1 < x44.1))))) ((rfl : _ = _).trans (congrArg Value.bool (decide_eq_false h59))) rfl ?_)
                    refine Rest.done (by kernel_rfl) ?_
                    refine t_norm (hK38 _ _ ?_)
                    refine c_cond rfl (fun h75 => ?_) (fun h75 => ?_)
                    · -- ¬ (x68.1 < x44.1)
                      refine wp_seq_k fun K76 hK76 => ?_
                      refine c_region ?_
                      refine s_op (o_assign (v := (.bool false)) rfl ?_)
                      refine s_nil ?_
                      refine t_norm (hK76 _ _ ?_)
                      refine wp_ret ?_
                      refine b_ret (t_ret (t_ret (b_ret (t_ret (c_ret1 Tryz.results17  (v := (.bool false)) rfl ?_)))))
                      have q77 : (pageR no gsn l) = false := by exact pageR_nc (cells_no2 (k := k) (by omega) hx45 (by rw [show k - 1 = ((k : Int) - 1).toNat by omega]; exact hx69) h75)
                      have hH78 : Has E w48 [R] := (hH47.front 1 rfl).first 1 rfl
                      exact ⟨by rw [q77], hH78⟩
                    · -- not: ¬ (x68.1 < x44.1)
                      refine wp_skip ?_
                      refine b_norm ?_
                      refine t_norm (hK37 _ _ ?_)
                      refine c_region ?_
                      refine s_op (o_move (v := (.int .i64 (k : Int))) e29_3 ?_)
                      refine s_op (o_add (a := (k : Int)) (b := 1) rfl rfl (w64 (by omega) (by omega)) ?_)
                      refine s_op (o_assign (v := (.int .i64 ((k : Int) + 1))) rfl ?_)
                      refine s_nil ?_
                      refine t_norm ⟨l.length - (k + 1), _, rfl, ?_, ?_⟩
                      · omega
                      · exact ⟨(k + 1), rfl, hH47, (by omega), (all_next (show l[k]? = some _ from hx45) ha (by simp only [celOk, Bool.and_eq_true]; exact ⟨by simpa using h49, by unfold valR; simp; omega⟩)), (cells_next (show l[k]? = some _ from hx45) hr (fun p h0 hp => by (have e_ := hp.symm.trans (show l[k - 1]? = some _ from by rw [show k - 1 = ((k : Int) - 1).toNat by omega]; exact hx69); cases e_; exact Classical.not_not.1 h75))), e29_0, e29_1, rfl, e29_27⟩
                  · -- not: 0 < (k : Int)
                    refine a_off (b' := false) 22 rfl (by kernel_rfl) 56 rfl (congrArg Value.bool (decide_eq_false h64)) rfl ?_
                    refine a_off (b' := false) 23 rfl (by kernel_rfl) 56 rfl (congrArg Value.bool (decide_eq_false h64)) rfl ?_
                    refine a_off (b' := false) 24 rfl (by kernel_rfl) 56 rfl (congrArg Value.bool (decide_eq_false h64)) rfl ?_
                    refine a_off (b' := false) 25 rfl (by kernel_rfl) 56 rfl (congrArg Value.bool (decide_eq_false h64)) rfl ?_
                    refine a_off (b' := false) 26 rfl (by kernel_rfl) 56 rfl (congrArg Value.bool (decide_eq_false h64)) rfl ?_
                    refine a_off (b' := false) 27 rfl (by kernel_rfl) 56 rfl (congrArg Value.bool (decide_eq_false h64)) rfl ?_
                    refine a_off (b' := false) 28 rfl (by kernel_rfl) 56 rfl (congrArg Value.bool (decide_eq_false h64)) rfl ?_
                    refine a_off (b' := false) 29 rfl (by kernel_rfl) 56 rfl (congrArg Value.bool (decide_eq_false h64)) rfl ?_
                    refine a_off (b' := false) 30 rfl (by kernel_rfl) 56 rfl (congrArg Value.bool (decide_eq_false h64)) rfl ?_
                    refine a_off (b' := false) 31 rfl (by kernel_rfl) 56 rfl (congrArg Value.bool (decide_eq_false h64)) rfl ?_
                    refine a_off (b' := false) 32 rfl (by kernel_rfl) 56 rfl (congrArg Value.bool (decide_eq_false h64)) rfl ?_
                    refine a_off (b' := false) 33 rfl (by kernel_rfl) 56 rfl (congrArg Value.bool (decide_eq_false h64)) rfl ?_
                    refine a_off (b' := false) 34 rfl (by kernel_rfl) 56 rfl (congrArg Value.bool (decide_eq_false h64)) rfl ?_
                    refine a_done (by kernel_rfl) hH47 ?_
                    refine r_off (b' := false) 35 rfl (by kernel_rfl) 56 rfl (congrArg Value.bool (decide_eq_false h64)) rfl ?_
                    refine r_on 36 rfl (by kernel_rfl) 53 rfl (congrArg Value.bool (decide_eq_false h59)) (o_pick_f (u := (.bool false)) ((rfl : _ = _).trans (congrArg Value.bool (decide_eq_false h64))) rfl ?_)
                    refine r_op 37 rfl (by kernel_rfl) (o_pick_f (u := (.bool false)) ((rfl : _ = _).trans (congrArg Value.bool (decide_eq_false h59))) rfl ?_)
                    refine Rest.done (by kernel_rfl) ?_
                    refine t_norm (hK38 _ _ ?_)
                    refine c_false rfl rfl ?_
                    refine wp_skip ?_
                    refine b_norm ?_
                    refine t_norm (hK37 _ _ ?_)
                    refine c_region ?_
                    refine s_op (o_move (v := (.int .i64 (k : Int))) e29_3 ?_)
                    refine s_op (o_add (a := (k : Int)) (b := 1) rfl rfl (w64 (by omega) (by omega)) ?_)
                    refine s_op (o_assign (v := (.int .i64 ((k : Int) + 1))) rfl ?_)
                    refine s_nil ?_
                    refine t_norm ⟨l.length - (k + 1), _, rfl, ?_, ?_⟩
                    · omega
                    · exact ⟨(k + 1), rfl, hH47, (by omega), (all_next (show l[k]? = some _ from hx45) ha (by simp only [celOk, Bool.and_eq_true]; exact ⟨by simpa using h49, by unfold valR; simp; omega⟩)), (cells_next (show l[k]? = some _ from hx45) hr (fun p h0 _ => absurd h0 (by omega))), e29_0, e29_1, rfl, e29_27⟩
            · -- not: (k : Int) < ((l.length : Nat) : Int)
              refine wp_exit ?_
              refine t_exit (t_exit (x_in (?_)))
              refine t_norm (hK27 _ _ ?_)
              refine wp_seq_k fun K79 hK79 => ?_
              refine c_region ?_
              refine s_op (o_assign (v := (.bool true)) rfl ?_)
              refine s_nil ?_
              refine t_norm (hK79 _ _ ?_)
              refine wp_ret ?_
              refine c_ret1 Tryz.results17  (v := (.bool true)) rfl ?_
              have q80 : (pageR no gsn l) = true := by (have e_ : k = l.length := by omega); rw [e_, List.take_length] at ha hr; exact (pageR_iff.2 ⟨by omega, by rw [cells_end ha hr]; exact decide_eq_true (by omega)⟩)
              have hH81 : Has E w31 [R] := (hH32.front 1 rfl).first 1 rfl
              exact ⟨by rw [q80], hH81⟩
end Go.Q
namespace Go.Q
open Go.Proofs
set_option linter.unusedVariables false
set_option maxRecDepth 100000
attribute [local irreducible] wpList OK Code.wp
set_option maxHeartbeats 4000000 in
theorem r11same_c {E w : World} {R : List Hp} {noa : Int} {gsna : Int} {v_la : Value} {la : List Cel} {nob : Int} {gsnb : Int} {v_lb : Value} {lb : List Cel}  (hH : Has E w [R]) (h_la : Sl R 2 v_la la.length (la.flatMap ceC)) (h_lb : Sl R 2 v_lb lb.length (lb.flatMap ceC)) :
    Calls Tryz.prog 25 #[(.agg #[(.int .i64 noa), (.int .i64 gsna), v_la]), (.agg #[(.int .i64 nob), (.int .i64 gsnb), v_lb])] w fun e w' => e = .returned (.bool (decide (noa = nob ∧ gsna = gsnb ∧ la = lb))) ∧ Has E w' [R] := by
  have hna_ := h_la.le
  have hnb_ := h_lb.le
  refine c_enter (args := [(.agg #[(.int .i64 noa), (.int .i64 gsna), v_la]), (.agg #[(.int .i64 nob), (.int .i64 gsnb), v_lb])]) Tryz.func25 rfl Tryz.ntmps25 (by simp) ?_
  refine wp_seq_k fun K1 hK1 => ?_
  refine c_region ?_
  refine s_op (o_box (cs := #[(.int .i64 noa), (.int .i64 gsna), v_la]) rfl rfl hH fun b2 w3 hH4 => ?_)
  refine s_op (o_box (cs := #[(.int .i64 nob), (.int .i64 gsnb), v_lb]) rfl rfl hH4 fun b5 w6 hH7 => ?_)
  refine s_op (o_assign (v := (.bool false)) rfl ?_)
  refine s_nil ?_
  refine t_norm (hK1 _ _ ?_)
  refine wp_seq_k fun K8 hK8 => ?_
  refine wp_seq_k fun K9 hK9 => ?_
  refine c_region ?_
  refine s_op (o_fieldAddr (k := 0) (fun _ => by kernel_rfl) rfl ?_)
  refine s_op (o_load1 (v := (.int .i64 noa)) Tryz.underlying3 rfl rfl hH7 (seg_sub 1 rfl) (CellsAt.one rfl) ?_)
  refine s_op (o_fieldAddr (k := 0) (fun _ => by kernel_rfl) rfl ?_)
  refine s_op (o_load1 (v := (.int .i64 nob)) Tryz.underlying3 rfl rfl hH7 (seg_sub 0 rfl) (CellsAt.one rfl) ?_)
  refine s_op (o_neq (a := noa) (b := nob) rfl rfl ?_)
  refine s_op (o_move (v := (.bool (decide (noa ≠ nob)))) rfl ?_)
  by_cases h10 : noa ≠ nob
  · -- noa ≠ nob
    refine s_off (b' := true) 11 rfl (congrArg Value.bool (decide_eq_true h10)) rfl ?_
    refine s_off (b' := true) 11 rfl (congrArg Value.bool (decide_eq_true h10)) rfl ?_
    refine s_off (b' := true) 11 rfl (congrArg Value.bool (decide_eq_true h10)) rfl ?_
    refine s_off (b' := true) 11 rfl (congrArg Value.bool (decide_eq_true h10)) rfl ?_
    refine s_off (b' := true) 11 rfl (congrArg Value.bool (decide_eq_true h10)) rfl ?_
    refine s_op (o_pick_t (u := (.bool true)) ((rfl : _ = _).trans (congrArg Value.bool (decide_eq_true h10))) rfl ?_)
    refine s_op (o_move (v := (.bool true)) rfl ?_)
    refine s_off (b' := true) 18 rfl rfl rfl ?_
    refine s_off (b' := true) 18 rfl rfl rfl ?_
    refine s_off (b' := true) 18 rfl rfl rfl ?_
    refine s_off (b' := true) 18 rfl rfl rfl ?_
    refine s_off (b' := true) 18 rfl rfl rfl ?_
    refine s_off (b' := true) 18 rfl rfl rfl ?_
    refine s_off (b' := true) 18 rfl rfl rfl ?_
    refine s_op (o_pick_t (u := (.bool true)) rfl rfl ?_)
    refine s_nil ?_
    refine t_norm (hK9 _ _ ?_)
    refine c_true rfl rfl ?_
    refine wp_seq_k fun K11 hK11 => ?_
    refine c_region ?_
    refine s_op (o_assign (v := (.bool false)) rfl ?_)
    refine s_nil ?_
    refine t_norm (hK11 _ _ ?_)
    refine wp_ret ?_
    refine t_ret (c_ret1 Tryz.results25  (v := (.bool false)) rfl ?_)
    have q12 : (decide (noa = nob ∧ gsna = gsnb ∧ la = lb)) = false := by exact (decide_eq_false (fun g_ => by first | omega | (have := congrArg List.length g_.2.2; omega)))
    have hH13 : Has E w6 [R] := (hH7.front 2 rfl).first 1 rfl
    exact ⟨by rw [q12], hH13⟩
  · -- not: noa ≠ nob
    refine s_on 11 rfl (congrArg Value.bool (decide_eq_false h10)) (o_fieldAddr (k := 1) (fun _ => by kernel_rfl) rfl ?_)
    refine s_on 11 rfl (congrArg Value.bool (decide_eq_false h10)) (o_load1 (v := (.int .i64 gsna)) Tryz.underlying3 rfl rfl hH7 (seg_sub 1 rfl) (CellsAt.one rfl) ?_)
    refine s_on 11 rfl (congrArg Value.bool (decide_eq_false h10)) (o_fieldAddr (k := 1) (fun _ => by kernel_rfl) rfl ?_)
    refine s_on 11 rfl (congrArg Value.bool (decide_eq_false h10)) (o_load1 (v := (.int .i64 gsnb)) Tryz.underlying3 rfl rfl hH7 (seg_sub 0 rfl) (CellsAt.one rfl) ?_)
    refine s_on 11 rfl (congrArg Value.bool (decide_eq_false h10)) (o_neq (a := gsna) (b := gsnb) rfl rfl ?_)
    refine s_op (o_pick_f (u := (.bool (decide (gsna ≠ gsnb)))) ((rfl : _ = _).trans (congrArg Value.bool (decide_eq_false h10))) rfl ?_)
    refine s_op (o_move (v := (.bool (decide (gsna ≠ gsnb)))) rfl ?_)
    by_cases h14 : gsna ≠ gsnb
    · -- gsna ≠ gsnb
      refine s_off (b' := true) 18 rfl (congrArg Value.bool (decide_eq_true h14)) rfl ?_
      refine s_off (b' := true) 18 rfl (congrArg Value.bool (decide_eq_true h14)) rfl ?_
      refine s_off (b' := true) 18 rfl (congrArg Value.bool (decide_eq_true h14)) rfl ?_
      refine s_off (b' := true) 18 rfl (congrArg Value.bool (decide_eq_true h14)) rfl ?_
      refine s_off (b' := true) 18 rfl (congrArg Value.bool (decide_eq_true h14)) rfl ?_
      refine s_off (b' := true) 18 rfl (congrArg Value.bool (decide_eq_true h14)) rfl ?_
      refine s_off (b' := true) 18 rfl (congrArg Value.bool (decide_eq_true h14)) rfl ?_
      refine s_op (o_pick_t (u := (.bool true)) ((rfl : _ = _).trans (congrArg Value.bool (decide_eq_true h14))) rfl ?_)
      refine s_nil ?_
      refine t_norm (hK9 _ _ ?_)
      refine c_true rfl rfl ?_
      refine wp_seq_k fun K15 hK15 => ?_
      refine c_region ?_
      refine s_op (o_assign (v := (.bool false)) rfl ?_)
      refine s_nil ?_
      refine t_norm (hK15 _ _ ?_)
      refine wp_ret ?_
      refine t_ret (c_ret1 Tryz.results25  (v := (.bool false)) rfl ?_)
      have q16 : (decide (noa = nob ∧ gsna = gsnb ∧ la = lb)) = false := by exact (decide_eq_false (fun g_ => by first | omega | (have := congrArg List.length g_.2.2; omega)))
      have hH17 : Has E w6 [R] := (hH7.front 2 rfl).first 1 rfl
      exact ⟨by rw [q16], hH17⟩
    · -- not: gsna ≠ gsnb
      refine s_on 18 rfl (congrArg Value.bool (decide_eq_false h14)) (o_fieldAddr (k := 2) (fun _ => by kernel_rfl) rfl ?_)
      refine s_on 18 rfl (congrArg Value.bool (decide_eq_false h14)) (o_load1 (v := v_la) Tryz.underlying34 rfl rfl hH7 (seg_sub 1 rfl) (CellsAt.one rfl) ?_)
      refine s_on 18 rfl (congrArg Value.bool (decide_eq_false h14)) (o_lenS Tryz.underlying34 rfl h_la ?_)
      refine s_on 18 rfl (congrArg Value.bool (decide_eq_false h14)) (o_fieldAddr (k := 2) (fun _ => by kernel_rfl) rfl ?_)
      refine s_on 18 rfl (congrArg Value.bool (decide_eq_false h14)) (o_load1 (v := v_lb) Tryz.underlying34 rfl rfl hH7 (seg_sub 0 rfl) (CellsAt.one rfl) ?_)
      refine s_on 18 rfl (congrArg Value.bool (decide_eq_false h14)) (o_lenS Tryz.underlying34 rfl h_lb ?_)
      refine s_on 18 rfl (congrArg Value.bool (decide_eq_false h14)) (o_neq (a := ((la.length : Nat) : Int)) (b := ((lb.length : Nat) : Int)) rfl rfl ?_)
      refine s_op (o_pick_f (u := (.bool (decide (((la.length : Nat) : Int) ≠ ((lb.length : Nat) : Int))))) ((rfl : _ = _).trans (congrArg Value.bool (decide_eq_false h14))) rfl ?_)
      refine s_nil ?_
      refine t_norm (hK9 _ _ ?_)
      refine c_cond rfl (fun h18 => ?_) (fun h18 => ?_)
      · -- ((la.length : Nat) : Int) ≠ ((lb.length : Nat) : Int)
        refine wp_seq_k fun K19 hK19 => ?_
        refine c_region ?_
        refine s_op (o_assign (v := (.bool false)) rfl ?_)
        refine s_nil ?_
        refine t_norm (hK19 _ _ ?_)
        refine wp_ret ?_
        refine t_ret (c_ret1 Tryz.results25  (v := (.bool false)) rfl ?_)
        have q20 : (decide (noa = nob ∧ gsna = gsnb ∧ la = lb)) = false := by exact (decide_eq_false (fun g_ => by first | omega | (have := congrArg List.length g_.2.2; omega)))
        have hH21 : Has E w6 [R] := (hH7.front 2 rfl).first 1 rfl
        exact ⟨by rw [q20], hH21⟩
      · -- not: ((la.length : Nat) : Int) ≠ ((lb.length : Nat) : Int)
        refine wp_skip ?_
        refine t_norm (hK8 _ _ ?_)
        refine wp_seq_k fun K22 hK22 => ?_
        refine wp_seq_k fun K23 hK23 => ?_
        refine c_region ?_
        refine s_op (o_assign (v := (.int .i64 0)) rfl ?_)
        refine s_nil ?_
        refine t_norm (hK23 _ _ ?_)
        refine wp_block ?_
        let I25 : Nat → (Nat → Value) → World → Prop := fun n__ r__ w__ => ∃ (k : Nat), n__ = la.length - k ∧ Has E w__ [[Hp.one b5 (.cells #[(.int .i64 nob), (.int .i64 gsnb), v_lb] 36 (0, 0))], [Hp.one b2 (.cells #[(.int .i64 noa), (.int .i64 gsna), v_la] 36 (0, 0))], R] ∧ (k ≤ la.length) ∧ (∀ j, j < k → la[j]? = lb[j]?) ∧ r__ 0 = (.agg #[(.int .i64 noa), (.int .i64 gsna), v_la]) ∧ r__ 1 = (.agg #[(.int .i64 nob), (.int .i64 gsnb), v_lb]) ∧ r__ 2 = (.pointer (some ⟨b2, 0, none⟩)) ∧ r__ 3 = (.pointer (some ⟨b5, 0, none⟩)) ∧ r__ 5 = (.int .i64 (k : Int)) ∧ r__ 26 = (.bool (decide (((la.length : Nat) : Int) ≠ ((lb.length : Nat) : Int))))
        refine c_loop I25 _ ⟨0, rfl, hH7, Nat.zero_le _, fun j hj => absurd hj (Nat.not_lt_zero j), rfl, rfl, rfl, rfl, rfl, rfl⟩ ?_
        rintro n_ r28 w26 ⟨k, rfl, hH27, hk, he, e24_0, e24_1, e24_2, e24_3, e24_5, e24_26⟩
        refine wp_seq_k fun K29 hK29 => ?_
        refine wp_seq_k fun K30 hK30 => ?_
        refine c_region ?_
        refine s_op (o_move (v := (.int .i64 (k : Int))) e24_5 ?_)
        refine s_op (o_fieldAddr (k := 2) (fun _ => by kernel_rfl) e24_2 ?_)
        refine s_op (o_load1 (v := v_la) Tryz.underlying34 rfl rfl hH27 (seg_sub 1 rfl) (CellsAt.one rfl) ?_)
        refine s_op (o_lenS Tryz.underlying34 rfl h_la ?_)
        refine s_op (o_lss (a := (k : Int)) (b := ((la.length : Nat) : Int)) rfl rfl ?_)
        refine s_nil ?_
        refine t_norm (hK30 _ _ ?_)
        refine c_cond rfl (fun h31 => ?_) (fun h31 => ?_)
        · -- (k : Int) < ((la.length : Nat) : Int)
          refine wp_skip ?_
          refine t_norm (hK29 _ _ ?_)
          refine wp_seq_k fun K32 hK32 => ?_
          refine wp_block ?_
          refine wp_seq_k fun K33 hK33 => ?_
          refine Rest.region mixed (by kernel_rfl) ?_
          have hH34 : Has E { w26 with drawn := w26.drawn + 1 } [[Hp.one b5 (.cells #[(.int .i64 nob), (.int .i64 gsnb), v_lb] 36 (0, 0))], [Hp.one b2 (.cells #[(.int .i64 noa), (.int .i64 gsna), v_la] 36 (0, 0))], R] := Has0.drew hH27 _
          refine Rest.phaseA (fun w_ => Has E w_ [[Hp.one b5 (.cells #[(.int .i64 nob), (.int .i64 gsnb), v_lb] 36 (0, 0))], [Hp.one b2 (.cells #[(.int .i64 noa), (.int .i64 gsna), v_la] 36 (0, 0))], R]) 0 10 10 rfl (by decide) (by kernel_rfl) ?_
          refine a_op 0 rfl (by kernel_rfl) (fun w_ h_ => o_fieldAddr (k := 2) (fun _ => by kernel_rfl) e24_2 ⟨rfl, rfl⟩) ?_
          refine a_op 1 rfl (by kernel_rfl) (fun w_ h_ => o_load1 (v := v_la) Tryz.underlying34 rfl rfl h_ (seg_sub 1 rfl) (CellsAt.one rfl) ⟨rfl, rfl⟩) ?_
          refine a_op 2 rfl (by kernel_rfl) (fun w_ h_ => o_move (v := (.int .i64 (k : Int))) e24_5 ⟨rfl, rfl⟩) ?_
          obtain ⟨x38, hx39⟩ : ∃ x_, la[((k : Int)).toNat]? = some x_ := get_some (by omega)
          obtain ⟨b35, o36, hc37, ho40⟩ := ix_exF ceC_len Tryz.underlying34 ti70 h_la (by omega) hx39
          refine a_op 3 rfl (by kernel_rfl) (fun w_ h_ => ho40 rfl rfl ⟨rfl, rfl⟩) ?_
          refine a_op 4 rfl (by kernel_rfl) (fun w_ h_ => o_loadN (cs := [(S x38.1), (S x38.2)]) Tryz.underlying70 rfl ti70 rfl h_ (seg_sub 2 rfl) hc37 ⟨rfl, rfl⟩) ?_
          refine a_op 5 rfl (by kernel_rfl) (fun w_ h_ => o_fieldAddr (k := 2) (fun _ => by kernel_rfl) e24_3 ⟨rfl, rfl⟩) ?_
          refine a_op 6 rfl (by kernel_rfl) (fun w_ h_ => o_load1 (v := v_lb) Tryz.underlying34 rfl rfl h_ (seg_sub 0 rfl) (CellsAt.one rfl) ⟨rfl, rfl⟩) ?_
          refine a_op 7 rfl (by kernel_rfl) (fun w_ h_ => o_move (v := (.int .i64 (k : Int))) e24_5 ⟨rfl, rfl⟩) ?_
          obtain ⟨x44, hx45⟩ : ∃ x_, lb[((k : Int)).toNat]? = some x_ := get_some (by omega)
          obtain ⟨b41, o42, hc43, ho46⟩ := ix_exF ceC_len Tryz.underlying34 ti70 h_lb (by omega) hx45
          refine a_op 8 rfl (by kernel_rfl) (fun w_ h_ => ho46 rfl rfl ⟨rfl, rfl⟩) ?_
          refine a_op 9 rfl (by kernel_rfl) (fun w_ h_ => o_loadN (cs := [(S x44.1), (S x44.2)]) Tryz.underlying70 rfl ti70 rfl h_ (seg_sub 2 rfl) hc43 ⟨rfl, rfl⟩) ?_
          refine a_done (by kernel_rfl) hH34 ?_
          refine r_op 10 rfl (by kernel_rfl) (o_neq70 x38.1 x38.2 x44.1 x44.2 rfl rfl ?_)
          refine Rest.done (by kernel_rfl) ?_
          refine t_norm (hK33 _ _ ?_)
          refine c_condb rfl (fun h47 => ?_) (fun h47 => ?_)
          · -- !(eqv70 x38.1 x38.2 x44.1 x44.2)
            have h47_n : (eqv70 x38.1 x38.2 x44.1 x44.2) = false := by simpa using h47
            refine wp_seq_k fun K48 hK48 => ?_
            refine c_region ?_
            refine s_op (o_assign (v := (.bool false)) rfl ?_)
            refine s_nil ?_
            refine t_norm (hK48 _ _ ?_)
            refine wp_ret ?_
            refine b_ret (t_ret (t_ret (b_ret (t_ret (c_ret1 Tryz.results25  (v := (.bool false)) rfl ?_)))))
            have q49 : (decide (noa = nob ∧ gsna = gsnb ∧ la = lb)) = false := by exact (decide_eq_false (fun g_ => same_not hx39 hx45 (fun e_ => by subst e_; exact absurd ((eqv70_iff _ _ _ _).2 ⟨rfl, rfl⟩) (by simpa using h47)) g_.2.2))
            have hH50 : Has E { w26 with drawn := w26.drawn + 1 } [R] := (hH34.front 2 rfl).first 1 rfl
            exact ⟨by rw [q49], hH50⟩
          · -- not: !(eqv70 x38.1 x38.2 x44.1 x44.2)
            have h47_n : (eqv70 x38.1 x38.2 x44.1 x44.2) = true := by simpa using h47
            refine wp_skip ?_
            refine b_norm ?_
            refine t_norm (hK32 _ _ ?_)
            refine c_region ?_
            refine s_op (o_move (v := (.int .i64 (k : Int))) e24_5 ?_)
            refine s_op (o_add (a := (k : Int)) (b := 1) rfl rfl (w64 (by omega) (by omega)) ?_)
            refine s_op (o_assign (v := (.int .i64 ((k : Int) + 1))) rfl ?_)
            refine s_nil ?_
            refine t_norm ⟨la.length - (k + 1), _, rfl, ?_, ?_⟩
            · omega
            · exact ⟨(k + 1), rfl, hH34, (by omega), (same_next he (show la[k]? = some _ from hx39) (show lb[k]? = some _ from hx45) (by have h_ := h47; have e_ := (eqv70_iff _ _ _ _).1 (by simpa using h_); exact Prod.ext e_.1 e_.2)), e24_0, e24_1, e24_2, e24_3, rfl, e24_26⟩
        · -- not: (k : Int) < ((la.length : Nat) : Int)
          refine wp_exit ?_
          refine t_exit (t_exit (x_in (?_)))
          refine t_norm (hK22 _ _ ?_)
          refine wp_seq_k fun K51 hK51 => ?_
          refine c_region ?_
          refine s_op (o_assign (v := (.bool true)) rfl ?_)
          refine s_nil ?_
          refine t_norm (hK51 _ _ ?_)
          refine wp_ret ?_
          refine c_ret1 Tryz.results25  (v := (.bool true)) rfl ?_
          have q52 : (decide (noa = nob ∧ gsna = gsnb ∧ la = lb)) = true := by exact (decide_eq_true ⟨by omega, by omega, same_all he (by omega) (by omega)⟩)
          have hH53 : Has E w26 [R] := (hH27.front 2 rfl).first 1 rfl
          exact ⟨by rw [q52], hH53⟩
set_option maxHeartbeats 4000000 in
theorem r11great_c {E w : World} {R : List Hp} {no : Int} {gsn : Int} {v_l : Value} {l : List Cel}  (hH : Has E w [R]) (h_l : Sl R 2 v_l l.length (l.flatMap ceC)) :
    Calls Tryz.prog 26 #[(.agg #[(.int .i64 no), (.int .i64 gsn), v_l])] w fun e w' => ∃ (gb : Bool), e = .returned (.bool gb) ∧ (gb = false → l.length ≤ 20 ∧ ∀ c ∈ l, c.1.length ≤ 100 ∧ c.2.length ≤ 100) ∧ Has E w' [R] := by
  have hn_ := h_l.le
  refine c_enter (args := [(.agg #[(.int .i64 no), (.int .i64 gsn), v_l])]) Tryz.func26 rfl Tryz.ntmps26 (by simp) ?_
  refine wp_seq_k fun K1 hK1 => ?_
  refine c_region ?_
  refine s_op (o_box (cs := #[(.int .i64 no), (.int .i64 gsn), v_l]) rfl rfl hH fun b2 w3 hH4 => ?_)
  refine s_op (o_assign (v := (.bool false)) rfl ?_)
  refine s_nil ?_
  refine t_norm (hK1 _ _ ?_)
  refine wp_seq_k fun K5 hK5 => ?_
  refine wp_seq_k fun K6 hK6 => ?_
  refine c_region ?_
  refine s_op (o_fieldAddr (k := 2) (fun _ => by kernel_rfl) rfl ?_)
  refine s_op (o_load1 (v := v_l) Tryz.underlying34 rfl rfl hH4 (seg_sub 0 rfl) (CellsAt.one rfl) ?_)
  refine s_op (o_lenS Tryz.underlying34 rfl h_l ?_)
  refine s_op (o_gtr (a := ((l.length : Nat) : Int)) (b := 20) rfl rfl ?_)
  refine s_nil ?_
  refine t_norm (hK6 _ _ ?_)
  refine c_cond rfl (fun h7 => ?_) (fun h7 => ?_)
  · -- 20 < ((l.length : Nat) : Int)
    refine wp_seq_k fun K8 hK8 => ?_
    refine c_region ?_
    refine s_op (o_assign (v := (.bool true)) rfl ?_)
    refine s_nil ?_
    refine t_norm (hK8 _ _ ?_)
    refine wp_ret ?_
    refine t_ret (c_ret1 Tryz.results26  (v := (.bool true)) rfl ?_)
    have hH9 : Has E w3 [R] := (hH4.front 1 rfl).first 1 rfl
    exact ⟨true, rfl, (fun g => by cases g), hH9⟩
  · -- not: 20 < ((l.length : Nat) : Int)
    refine wp_skip ?_
    refine t_norm (hK5 _ _ ?_)
    refine wp_seq_k fun K10 hK10 => ?_
    refine wp_seq_k fun K11 hK11 => ?_
    refine c_region ?_
    refine s_op (o_assign (v := (.int .i64 0)) rfl ?_)
    refine s_nil ?_
    refine t_norm (hK11 _ _ ?_)
    refine wp_block ?_
    let I13 : Nat → (Nat → Value) → World → Prop := fun n__ r__ w__ => ∃ (k : Nat), n__ = l.length - k ∧ Has E w__ [[Hp.one b2 (.cells #[(.int .i64 no), (.int .i64 gsn), v_l] 36 (0, 0))], R] ∧ (k ≤ l.length) ∧ (∀ c ∈ l.take k, c.1.length ≤ 100 ∧ c.2.length ≤ 100) ∧ r__ 0 = (.agg #[(.int .i64 no), (.int .i64 gsn), v_l]) ∧ r__ 1 = (.pointer (some ⟨b2, 0, none⟩)) ∧ r__ 3 = (.int .i64 (k : Int)) ∧ r__ 7 = (.bool (decide (20 < ((l.length : Nat) : Int))))
    refine c_loop I13 _ ⟨0, rfl, hH4, Nat.zero_le _, (by simp), rfl, rfl, rfl, rfl⟩ ?_
    rintro n_ r16 w14 ⟨k, rfl, hH15, hk, hgf, e12_0, e12_1, e12_3, e12_7⟩
    refine wp_seq_k fun K17 hK17 => ?_
    refine wp_seq_k fun K18 hK18 => ?_
    refine c_region ?_
    refine s_op (o_move (v := (.int .i64 (k : Int))) e12_3 ?_)
    refine s_op (o_fieldAddr (k := 2) (fun _ => by kernel_rfl) e12_1 ?_)
    refine s_op (o_load1 (v := v_l) Tryz.underlying34 rfl rfl hH15 (seg_sub 0 rfl) (CellsAt.one rfl) ?_)
    refine s_op (o_lenS Tryz.underlying34 rfl h_l ?_)
    refine s_op (o_lss (a := (k : Int)) (b := ((l.length : Nat) : Int)) rfl rfl ?_)
    refine s_nil ?_
    refine t_norm (hK18 _ _ ?_)
    refine c_cond rfl (fun h19 => ?_) (fun h19 => ?_)
    · -- (k : Int) < ((l.length : Nat) : Int)
      refine wp_skip ?_
      refine t_norm (hK17 _ _ ?_)
      refine wp_seq_k fun K20 hK20 => ?_
      refine wp_block ?_
      refine wp_seq_k fun K21 hK21 => ?_
      refine c_region ?_
      refine s_op (o_fieldAddr (k := 2) (fun _ => by kernel_rfl) e12_1 ?_)
      refine s_op (o_load1 (v := v_l) Tryz.underlying34 rfl rfl hH15 (seg_sub 0 rfl) (CellsAt.one rfl) ?_)
      refine s_op (o_move (v := (.int .i64 (k : Int))) e12_3 ?_)
      obtain ⟨x25, hx26⟩ : ∃ x_, l[((k : Int)).toNat]? = some x_ := get_some (by omega)
      refine s_op (o_indexF ceC_len Tryz.underlying34 ti70 rfl h_l rfl rfl (by omega) hx26 fun b22 o23 hc24 => ?_)
      refine s_op (o_fieldAddr (k := o23) (fun _ => by kernel_rfl) rfl ?_)
      refine s_op (o_load1 (v := (S x25.1)) Tryz.underlying9 rfl rfl hH15 (seg_sub 1 rfl) (CellsAt.field (k := 0) (ds := [(S x25.1)]) hc24 rfl) ?_)
      refine s_op (o_slen Tryz.underlying9 rfl ?_)
      refine s_op (o_gtr (a := (x25.1.length : Int)) (b := 100) rfl rfl ?_)
      refine s_op (o_move (v := (.bool (decide (100 < (x25.1.length : Int))))) rfl ?_)
      by_cases h27 : 100 < (x25.1.length : Int)
      · -- 100 < (x25.1.length : Int)
        refine s_off (b' := true) 23 rfl (congrArg Value.bool (decide_eq_true h27)) rfl ?_
        refine s_off (b' := true) 23 rfl (congrArg Value.bool (decide_eq_true h27)) rfl ?_
        refine s_off (b' := true) 23 rfl (congrArg Value.bool (decide_eq_true h27)) rfl ?_
        refine s_off (b' := true) 23 rfl (congrArg Value.bool (decide_eq_true h27)) rfl ?_
        refine s_off (b' := true) 23 rfl (congrArg Value.bool (decide_eq_true h27)) rfl ?_
        refine s_off (b' := true) 23 rfl (congrArg Value.bool (decide_eq_true h27)) rfl ?_
        refine s_off (b' := true) 23 rfl (congrArg Value.bool (decide_eq_true h27)) rfl ?_
        refine s_off (b' := true) 23 rfl (congrArg Value.bool (decide_eq_true h27)) rfl ?_
        refine s_op (o_pick_t (u := (.bool true)) ((rfl : _ = _).trans (congrArg Value.bool (decide_eq_true h27))) rfl ?_)
        refine s_nil ?_
        refine t_norm (hK21 _ _ ?_)
        refine c_true rfl rfl ?_
        refine wp_seq_k fun K28 hK28 => ?_
        refine c_region ?_
        refine s_op (o_assign (v := (.bool true)) rfl ?_)
        refine s_nil ?_
        refine t_norm (hK28 _ _ ?_)
        refine wp_ret ?_
        refine b_ret (t_ret (t_ret (b_ret (t_ret (c_ret1 Tryz.results26  (v := (.bool true)) rfl ?_)))))
        have hH29 : Has E w14 [R] := (hH15.front 1 rfl).first 1 rfl
        exact ⟨true, rfl, (fun g => by cases g), hH29⟩
      · -- not: 100 < (x25.1.length : Int)
        refine s_on 23 rfl (congrArg Value.bool (decide_eq_false h27)) (o_fieldAddr (k := 2) (fun _ => by kernel_rfl) e12_1 ?_)
        refine s_on 23 rfl (congrArg Value.bool (decide_eq_false h27)) (o_load1 (v := v_l) Tryz.underlying34 rfl rfl hH15 (seg_sub 0 rfl) (CellsAt.one rfl) ?_)
        refine s_on 23 rfl (congrArg Value.bool (decide_eq_false h27)) (o_move (v := (.int .i64 (k : Int))) e12_3 ?_)
        refine s_on 23 rfl (congrArg Value.bool (decide_eq_false h27)) (o_indexF ceC_len Tryz.underlying34 ti70 rfl h_l rfl rfl (by omega) hx26 fun b30 o31 hc32 => ?_)
        refine s_on 23 rfl (congrArg Value.bool (decide_eq_false h27)) (o_fieldAddr (k := o31 + 1) (fun _ => by kernel_rfl) rfl ?_)
        refine s_on 23 rfl (congrArg Value.bool (decide_eq_false h27)) (o_load1 (v := (S x25.2)) Tryz.underlying9 rfl rfl hH15 (seg_sub 1 rfl) (CellsAt.field (k := 1) (ds := [(S x25.2)]) hc32 rfl) ?_)
        refine s_on 23 rfl (congrArg Value.bool (decide_eq_false h27)) (o_slen Tryz.underlying9 rfl ?_)
        refine s_on 23 rfl (congrArg Value.bool (decide_eq_false h27)) (o_gtr (a := (x25.2.length : Int)) (b := 100) rfl rfl ?_)
        refine s_op (o_pick_f (u := (.bool (decide (100 < (x25.2.length : Int))))) ((rfl : _ = _).trans (congrArg Value.bool (decide_eq_false h27))) rfl ?_)
        refine s_nil ?_
        refine t_norm (hK21 _ _ ?_)
        refine c_cond rfl (fun h33 => ?_) (fun h33 => ?_)
        · -- 100 < (x25.2.length : Int)
          refine wp_seq_k fun K34 hK34 => ?_
          refine c_region ?_
          refine s_op (o_assign (v := (.bool true)) rfl ?_)
          refine s_nil ?_
          refine t_norm (hK34 _ _ ?_)
          refine wp_ret ?_
          refine b_ret (t_ret (t_ret (b_ret (t_ret (c_ret1 Tryz.results26  (v := (.bool true)) rfl ?_)))))
          have hH35 : Has E w14 [R] := (hH15.front 1 rfl).first 1 rfl
          exact ⟨true, rfl, (fun g => by cases g), hH35⟩
        · -- not: 100 < (x25.2.length : Int)
          refine wp_skip ?_
          refine b_norm ?_
          refine t_norm (hK20 _ _ ?_)
          refine c_region ?_
          refine s_op (o_move (v := (.int .i64 (k : Int))) e12_3 ?_)
          refine s_op (o_add (a := (k : Int)) (b := 1) rfl rfl (w64 (by omega) (by omega)) ?_)
          refine s_op (o_assign (v := (.int .i64 ((k : Int) + 1))) rfl ?_)
          refine s_nil ?_
          refine t_norm ⟨l.length - (k + 1), _, rfl, ?_, ?_⟩
          · omega
          · exact ⟨(k + 1), rfl, hH15, (by omega), (great_next hgf (show l[k]? = some _ from hx26) (by omega)), e12_0, e12_1, rfl, e12_7⟩
    · -- not: (k : Int) < ((l.length : Nat) : Int)
      refine wp_exit ?_
      refine t_exit (t_exit (x_in (?_)))
      refine t_norm (hK10 _ _ ?_)
      refine wp_seq_k fun K36 hK36 => ?_
      refine c_region ?_
      refine s_op (o_assign (v := (.bool false)) rfl ?_)
      refine s_nil ?_
      refine t_norm (hK36 _ _ ?_)
      refine wp_ret ?_
      refine c_ret1 Tryz.results26  (v := (.bool false)) rfl ?_
      have hH37 : Has E w14 [R] := (hH15.front 1 rfl).first 1 rfl
      have e_ : k = l.length := by omega
      rw [e_, List.take_length] at hgf
      exact ⟨false, rfl, (fun _ => ⟨by omega, hgf⟩), hH37⟩
end Go.Q
namespace Go.Q
open Go.Proofs
set_option linter.unusedVariables false
set_option maxRecDepth 100000
attribute [local irreducible] wpList OK Code.wp
set_option maxHeartbeats 4000000 in
theorem great12_c {E w : World} {R : List Hp} (hH : Has E w [R]) {v : Value} {l : List Pg} (hv : Sl R 3 v l.length (l.flatMap pgC)) (hok : ∀ a ∈ l, PgIn R a) :
    Calls Tryz.prog 16 #[v] w fun e w' => ∃ b, e = .returned (.bool b) ∧ (b = false → l.length ≤ 20) ∧ Has E w' [R] := by
  have hn_ := hv.le
  refine c_enter (args := [v]) Tryz.func16 rfl Tryz.ntmps16 (by simp) ?_
  refine wp_seq_k fun K1 hK1 => ?_
  refine c_region ?_
  refine s_op (o_assign (v := (.bool false)) rfl ?_)
  refine s_nil ?_
  refine t_norm (hK1 _ _ ?_)
  refine wp_seq_k fun K2 hK2 => ?_
  refine wp_seq_k fun K3 hK3 => ?_
  refine c_region ?_
  refine s_op (o_move (v := v) rfl ?_)
  refine s_op (o_lenS Tryz.underlying31 rfl hv ?_)
  refine s_op (o_gtr (a := ((l.length : Nat) : Int)) (b := 20) rfl rfl ?_)
  refine s_nil ?_
  refine t_norm (hK3 _ _ ?_)
  refine c_cond rfl (fun h4 => ?_) (fun h4 => ?_)
  · -- 20 < ((l.length : Nat) : Int)
    refine wp_seq_k fun K5 hK5 => ?_
    refine c_region ?_
    refine s_op (o_assign (v := (.bool true)) rfl ?_)
    refine s_nil ?_
    refine t_norm (hK5 _ _ ?_)
    refine wp_ret ?_
    refine t_ret (c_ret1 Tryz.results16  (v := (.bool true)) rfl ?_)
    exact ⟨true, rfl, (fun g_ => by first | omega | cases g_), hH⟩
  · -- not: 20 < ((l.length : Nat) : Int)
    refine wp_skip ?_
    refine t_norm (hK2 _ _ ?_)
    refine wp_seq_k fun K6 hK6 => ?_
    refine wp_seq_k fun K7 hK7 => ?_
    refine c_region ?_
    refine s_op (o_assign (v := (.int .i64 0)) rfl ?_)
    refine s_nil ?_
    refine t_norm (hK7 _ _ ?_)
    refine wp_block ?_
    let I9 : Nat → (Nat → Value) → World → Prop := fun n__ r__ w__ => ∃ (i : Nat), n__ = l.length - i ∧ Has E w__ [R] ∧ (i ≤ l.length) ∧ r__ 0 = v ∧ r__ 3 = (.int .i64 (i : Int)) ∧ r__ 6 = (.bool (decide (20 < ((l.length : Nat) : Int))))
    refine c_loop I9 _ ⟨0, rfl, hH, Nat.zero_le _, rfl, rfl, rfl⟩ ?_
    rintro n_ r12 w10 ⟨i, rfl, hH11, hi, e8_0, e8_3, e8_6⟩
    refine wp_seq_k fun K13 hK13 => ?_
    refine wp_seq_k fun K14 hK14 => ?_
    refine c_region ?_
    refine s_op (o_move (v := (.int .i64 (i : Int))) e8_3 ?_)
    refine s_op (o_move (v := v) e8_0 ?_)
    refine s_op (o_lenS Tryz.underlying31 rfl hv ?_)
    refine s_op (o_lss (a := (i : Int)) (b := ((l.length : Nat) : Int)) rfl rfl ?_)
    refine s_nil ?_
    refine t_norm (hK14 _ _ ?_)
    refine c_cond rfl (fun h15 => ?_) (fun h15 => ?_)
    · -- (i : Int) < ((l.length : Nat) : Int)
      refine wp_skip ?_
      refine t_norm (hK13 _ _ ?_)
      refine wp_seq_k fun K16 hK16 => ?_
      refine wp_block ?_
      refine wp_seq_k fun K17 hK17 => ?_
      refine c_region ?_
      refine s_op (o_move (v := v) e8_0 ?_)
      refine s_op (o_move (v := (.int .i64 (i : Int))) e8_3 ?_)
      obtain ⟨x21, hx22⟩ : ∃ x_, l[((i : Int)).toNat]? = some x_ := get_some (by omega)
      refine s_op (o_indexF pgC_len Tryz.underlying31 ti36 rfl hv rfl rfl (by omega) hx22 fun b18 o19 hc20 => ?_)
      refine s_op (o_loadN (cs := [(.int .i64 x21.1), (.int .i64 x21.2.1), x21.2.2.1]) Tryz.underlying36 rfl ti36 rfl hH11 (seg_sub 0 rfl) hc20 ?_)
      refine s_op (o_callf (vs := #[(.agg #[(.int .i64 x21.1), (.int .i64 x21.2.1), x21.2.2.1])]) ca26 rfl (args1 rfl) (r11great_c (no := x21.1) (gsn := x21.2.1) (l := x21.2.2.2) hH11.all ((hok x21 (List.mem_of_getElem? hx22)).mono (seg_sub 0 rfl))) ?_)
      rintro _ w27 ⟨gb_23, rfl, hg_24, hX25⟩
      refine ⟨_, rfl, ?_⟩
      have hH26 : Has E w27 [R] := hX25.of_all
      refine s_nil ?_
      refine t_norm (hK17 _ _ ?_)
      refine c_condb rfl (fun h28 => ?_) (fun h28 => ?_)
      · -- gb_23
        refine wp_seq_k fun K29 hK29 => ?_
        refine c_region ?_
        refine s_op (o_assign (v := (.bool true)) rfl ?_)
        refine s_nil ?_
        refine t_norm (hK29 _ _ ?_)
        refine wp_ret ?_
        refine b_ret (t_ret (t_ret (b_ret (t_ret (c_ret1 Tryz.results16  (v := (.bool true)) rfl ?_)))))
        exact ⟨true, rfl, (fun g_ => by first | omega | cases g_), hH26⟩
      · -- not: gb_23
        refine wp_skip ?_
        refine b_norm ?_
        refine t_norm (hK16 _ _ ?_)
        refine c_region ?_
        refine s_op (o_move (v := (.int .i64 (i : Int))) e8_3 ?_)
        refine s_op (o_add (a := (i : Int)) (b := 1) rfl rfl (w64 (by omega) (by omega)) ?_)
        refine s_op (o_assign (v := (.int .i64 ((i : Int) + 1))) rfl ?_)
        refine s_nil ?_
        refine t_norm ⟨l.length - (i + 1), _, rfl, ?_, ?_⟩
        · omega
        · exact ⟨(i + 1), rfl, hH26, (by omega), e8_0, rfl, e8_6⟩
    · -- not: (i : Int) < ((l.length : Nat) : Int)
      refine wp_exit ?_
      refine t_exit (t_exit (x_in (?_)))
      refine t_norm (hK6 _ _ ?_)
      refine wp_seq_k fun K30 hK30 => ?_
      refine c_region ?_
      refine s_op (o_assign (v := (.bool false)) rfl ?_)
      refine s_nil ?_
      refine t_norm (hK30 _ _ ?_)
      refine wp_ret ?_
      refine c_ret1 Tryz.results16  (v := (.bool false)) rfl ?_
      exact ⟨false, rfl, (fun g_ => by first | omega | cases g_), hH11⟩
set_option maxHeartbeats 4000000 in
theorem same12_c {E w : World} {R sg : List Hp} {pb db tb : Nat} {d : Dv} {n : Int} (hH : Has E w [sg, [Hp.one pb (.cells #[(.bool d.p.off), (.bool d.p.armed), (.int .i64 d.p.left), (.int .i64 d.p.uses)] 101 (0, 0))], [Hp.one tb (.cells #[(.pointer (some ⟨db, 0, none⟩)), (.int .i64 n)] 98 (0, 0))], R]) (hd : DevAt pb sg db d.la d.lo) (hlo : d.lo = []) (hon : d.p.off = false) (h64 : Full64 d.la) (h4 : d.la.length ≤ 4096) (hn : 1 ≤ n ∧ n ≤ 64) (hln : 5 + n * 4 ≤ d.la.length) (hg : CellsAt R 1 0 nibV) {v : Value} {now : List Pg} (hv : Sl R 3 v now.length (now.flatMap pgC)) (hok : ∀ a ∈ now, PgIn R a) {B : Nat → Bs} (hT : Told now B n.toNat) (hB : ∀ k : Nat, k < n.toNat → pgB d.la (plc k) = B k) :
    Calls Tryz.prog 19 #[(.pointer (some ⟨tb, 0, none⟩)), v] w fun e w' => e = .returned (.bool true) ∧ Has E w' [sg, [Hp.one pb (.cells #[(.bool d.p.off), (.bool d.p.armed), (.int .i64 d.p.left), (.int .i64 d.p.uses)] 101 (0, 0))], [Hp.one tb (.cells #[(.pointer (some ⟨db, 0, none⟩)), (.int .i64 n)] 98 (0, 0))], R] := by
  have hn_ := hv.le
  have hTl_ := hT.1
  refine c_enter (args := [(.pointer (some ⟨tb, 0, none⟩)), v]) Tryz.func19 rfl Tryz.ntmps19 (by simp) ?_
  refine wp_seq_k fun K1 hK1 => ?_
  refine c_region ?_
  refine s_op (o_assign (v := (.bool false)) rfl ?_)
  refine s_nil ?_
  refine t_norm (hK1 _ _ ?_)
  refine wp_seq_k fun K2 hK2 => ?_
  refine wp_seq_k fun K3 hK3 => ?_
  refine c_region ?_
  refine s_op (o_assign (v := (.int .i64 0)) rfl ?_)
  refine s_nil ?_
  refine t_norm (hK3 _ _ ?_)
  refine wp_block ?_
  let I5 : Nat → (Nat → Value) → World → Prop := fun n__ r__ w__ => ∃ (i : Nat), n__ = now.length - i ∧ Has E w__ [sg, [Hp.one pb (.cells #[(.bool d.p.off), (.bool d.p.armed), (.int .i64 d.p.left), (.int .i64 d.p.uses)] 101 (0, 0))], [Hp.one tb (.cells #[(.pointer (some ⟨db, 0, none⟩)), (.int .i64 n)] 98 (0, 0))], R] ∧ (i ≤ now.length) ∧ r__ 0 = (.pointer (some ⟨tb, 0, none⟩)) ∧ r__ 1 = v ∧ r__ 5 = (.int .i64 (i : Int))
  refine c_loop I5 _ ⟨0, rfl, hH, Nat.zero_le _, rfl, rfl, rfl⟩ ?_
  rintro n_ r8 w6 ⟨i, rfl, hH7, hi, e4_0, e4_1, e4_5⟩
  refine wp_seq_k fun K9 hK9 => ?_
  refine wp_seq_k fun K10 hK10 => ?_
  refine c_region ?_
  refine s_op (o_move (v := (.int .i64 (i : Int))) e4_5 ?_)
  refine s_op (o_move (v := v) e4_1 ?_)
  refine s_op (o_lenS Tryz.underlying31 rfl hv ?_)
  refine s_op (o_lss (a := (i : Int)) (b := ((now.length : Nat) : Int)) rfl rfl ?_)
  refine s_nil ?_
  refine t_norm (hK10 _ _ ?_)
  refine c_cond rfl (fun h11 => ?_) (fun h11 => ?_)
  · -- (i : Int) < ((now.length : Nat) : Int)
    refine wp_skip ?_
    refine t_norm (hK9 _ _ ?_)
    refine wp_seq_k fun K12 hK12 => ?_
    refine wp_block ?_
    refine wp_seq_k fun K13 hK13 => ?_
    refine c_region ?_
    refine s_op (o_move (v := (.pointer (some ⟨tb, 0, none⟩))) e4_0 ?_)
    refine s_op (o_move (v := (.int .i64 (i : Int))) e4_5 ?_)
    refine s_op (o_callf (vs := #[(.pointer (some ⟨tb, 0, none⟩)), (.int .i64 (i : Int))]) ca24 rfl (args2 rfl rfl) (tpage_on (d := d) (n := n) (((hH7.front 2 rfl).front 2 rfl).front 2 rfl).all3 hd hlo hon h64 h4 hn hln (hg.mono (seg_sub 0 rfl)) (x := (i : Int)) ⟨by omega, by omega⟩) ?_)
    rintro _ w19 ⟨v14, hs15, rfl, ho16, hX17⟩
    refine ⟨_, rfl, ?_⟩
    have hH18 : Has E w19 [hs15, sg, [Hp.one pb (.cells #[(.bool d.p.off), (.bool d.p.armed), (.int .i64 d.p.left), (.int .i64 d.p.uses)] 101 (0, 0))], [Hp.one tb (.cells #[(.pointer (some ⟨db, 0, none⟩)), (.int .i64 n)] 98 (0, 0))], R] := hX17.of_all4
    refine s_op (o_move (v := (.tuple #[(.agg #[(.int .i64 ((pgOf (pgB d.la (plc (i : Int))) (i : Int)).1.1)), (.int .i64 ((pgOf (pgB d.la (plc (i : Int))) (i : Int)).1.2.1)), v14]), (.int .i64 ((pgOf (pgB d.la (plc (i : Int))) (i : Int)).2))])) rfl ?_)
    refine s_op (o_extract (v := (.agg #[(.int .i64 ((pgOf (pgB d.la (plc (i : Int))) (i : Int)).1.1)), (.int .i64 ((pgOf (pgB d.la (plc (i : Int))) (i : Int)).1.2.1)), v14])) rfl rfl ?_)
    refine s_op (o_extract (v := (.int .i64 ((pgOf (pgB d.la (plc (i : Int))) (i : Int)).2))) rfl rfl ?_)
    refine s_op (o_alloc (cs := #[(.int .i64 0), (.int .i64 0), (.slice none 0 0)]) ti36 rfl hH18 fun b20 w21 hH22 => ?_)
    refine s_eff (o_storeN (vs := [(.int .i64 ((pgOf (pgB d.la (plc (i : Int))) (i : Int)).1.1)), (.int .i64 ((pgOf (pgB d.la (plc (i : Int))) (i : Int)).1.2.1)), v14]) (c' := #[(.int .i64 ((pgOf (pgB d.la (plc (i : Int))) (i : Int)).1.1)), (.int .i64 ((pgOf (pgB d.la (plc (i : Int))) (i : Int)).1.2.1)), v14]) ti36 rfl rfl rfl rfl (by intro u hu; simp only [List.mem_cons, List.not_mem_nil, or_false] at hu; rcases hu with rfl | rfl | rfl <;> first | rfl | exact ho16.one) (by simp) (by kernel_rfl) (hH22.front 0 rfl) fun w23 hH24 => ?_)
    refine s_op (o_assign (v := (.int .i64 ((pgOf (pgB d.la (plc (i : Int))) (i : Int)).2))) rfl ?_)
    refine s_nil ?_
    refine t_norm (hK13 _ _ ?_)
    refine wp_seq_k fun K25 hK25 => ?_
    refine Rest.region mixed (by kernel_rfl) ?_
    have hH26 : Has E { w23 with drawn := w23.drawn + 1 } [[Hp.one b20 (.cells #[(.int .i64 ((pgOf (pgB d.la (plc (i : Int))) (i : Int)).1.1)), (.int .i64 ((pgOf (pgB d.la (plc (i : Int))) (i : Int)).1.2.1)), v14] 36 (0, 0))], hs15, sg, [Hp.one pb (.cells #[(.bool d.p.off), (.bool d.p.armed), (.int .i64 d.p.left), (.int .i64 d.p.uses)] 101 (0, 0))], [Hp.one tb (.cells #[(.pointer (some ⟨db, 0, none⟩)), (.int .i64 n)] 98 (0, 0))], R] := Has0.drew hH24 _
    refine r_op 0 rfl (by kernel_rfl) (o_move (v := (.int .i64 ((pgOf (pgB d.la (plc (i : Int))) (i : Int)).2))) rfl ?_)
    refine r_op 1 rfl (by kernel_rfl) (o_neq (a := (pgOf (pgB d.la (plc (i : Int))) (i : Int)).2) (b := 0) rfl rfl ?_)
    refine r_op 2 rfl (by kernel_rfl) (o_move (v := (.bool (decide ((pgOf (pgB d.la (plc (i : Int))) (i : Int)).2 ≠ 0)))) rfl ?_)
    refine Rest.phaseA (fun w_ => Has E w_ [[Hp.one b20 (.cells #[(.int .i64 ((pgOf (pgB d.la (plc (i : Int))) (i : Int)).1.1)), (.int .i64 ((pgOf (pgB d.la (plc (i : Int))) (i : Int)).1.2.1)), v14] 36 (0, 0))], R]) 3 8 5 rfl (by decide) (by kernel_rfl) ?_
    by_cases h27 : (pgOf (pgB d.la (plc (i : Int))) (i : Int)).2 ≠ 0
    · -- (pgOf (pgB d.la (plc (i : Int))) (i : Int)).2 ≠ 0
      obtain ⟨xa_, hxa_, hpo_⟩ := hT.2 i (by omega)
      rw [← hB i (by omega)] at hpo_
      exact absurd (by rw [hpo_]) h27
    · -- not: (pgOf (pgB d.la (plc (i : Int))) (i : Int)).2 ≠ 0
      obtain ⟨xa_, hxa_, hpo_⟩ := hT.2 i (by omega)
      rw [← hB i (by omega)] at hpo_
      refine a_on 3 rfl (by kernel_rfl) 26 rfl (congrArg Value.bool (decide_eq_false h27)) (fun w_ h_ => o_loadN (cs := [(.int .i64 ((pgOf (pgB d.la (plc (i : Int))) (i : Int)).1.1)), (.int .i64 ((pgOf (pgB d.la (plc (i : Int))) (i : Int)).1.2.1)), v14]) Tryz.underlying36 rfl ti36 rfl h_ (seg_sub 0 rfl) (CellsAt.one rfl) ⟨rfl, rfl⟩) ?_
      refine a_on 4 rfl (by kernel_rfl) 26 rfl (congrArg Value.bool (decide_eq_false h27)) (fun w_ h_ => o_move (v := v) e4_1 ⟨rfl, rfl⟩) ?_
      refine a_on 5 rfl (by kernel_rfl) 26 rfl (congrArg Value.bool (decide_eq_false h27)) (fun w_ h_ => o_move (v := (.int .i64 (i : Int))) e4_5 ⟨rfl, rfl⟩) ?_
      obtain ⟨x31, hx32⟩ : ∃ x_, now[((i : Int)).toNat]? = some x_ := get_some (by omega)
      obtain ⟨b28, o29, hc30, ho33⟩ := ix_exF pgC_len Tryz.underlying31 ti36 hv (by omega) hx32
      refine a_on 6 rfl (by kernel_rfl) 26 rfl (congrArg Value.bool (decide_eq_false h27)) (fun w_ h_ => ho33 rfl rfl ⟨rfl, rfl⟩) ?_
      refine a_on 7 rfl (by kernel_rfl) 26 rfl (congrArg Value.bool (decide_eq_false h27)) (fun w_ h_ => o_loadN (cs := [(.int .i64 x31.1), (.int .i64 x31.2.1), x31.2.2.1]) Tryz.underlying36 rfl ti36 rfl h_ (seg_sub 1 rfl) hc30 ⟨rfl, rfl⟩) ?_
      have hH34 : Has E { w23 with drawn := w23.drawn + 1 } [[Hp.one b20 (.cells #[(.int .i64 ((pgOf (pgB d.la (plc (i : Int))) (i : Int)).1.1)), (.int .i64 ((pgOf (pgB d.la (plc (i : Int))) (i : Int)).1.2.1)), v14] 36 (0, 0))], R] := ((hH26.front 5 rfl).front 1 rfl).first 2 rfl
      refine a_done (by kernel_rfl) hH34 ?_
      refine r_on 8 rfl (by kernel_rfl) 26 rfl (congrArg Value.bool (decide_eq_false h27)) (o_callf (vs := #[(.agg #[(.int .i64 ((pgOf (pgB d.la (plc (i : Int))) (i : Int)).1.1)), (.int .i64 ((pgOf (pgB d.la (plc (i : Int))) (i : Int)).1.2.1)), v14]), (.agg #[(.int .i64 x31.1), (.int .i64 x31.2.1), x31.2.2.1])]) ca25 rfl (args2 rfl rfl) (r11same_c (noa := (pgOf (pgB d.la (plc (i : Int))) (i : Int)).1.1) (gsna := (pgOf (pgB d.la (plc (i : Int))) (i : Int)).1.2.1) (la := (pgOf (pgB d.la (plc (i : Int))) (i : Int)).1.2.2) (nob := x31.1) (gsnb := x31.2.1) (lb := x31.2.2.2) hH26.all (ho16.sl.mono (seg_sub 1 rfl)) ((hok x31 (List.mem_of_getElem? hx32)).mono (seg_sub 5 rfl))) ?_)
      rintro _ w37 ⟨rfl, hX35⟩
      refine ⟨_, rfl, ?_⟩
      have hH36 := hX35.of_all
      refine r_on 9 rfl (by kernel_rfl) 26 rfl (congrArg Value.bool (decide_eq_false h27)) (o_not rfl ?_)
      refine r_op 10 rfl (by kernel_rfl) (o_pick_f (u := (.bool (!(decide (((pgOf (pgB d.la (plc (i : Int))) (i : Int)).1.1) = x31.1 ∧ ((pgOf (pgB d.la (plc (i : Int))) (i : Int)).1.2.1) = x31.2.1 ∧ ((pgOf (pgB d.la (plc (i : Int))) (i : Int)).1.2.2) = x31.2.2.2))))) ((rfl : _ = _).trans (congrArg Value.bool (decide_eq_false h27))) rfl ?_)
      refine Rest.done (by kernel_rfl) ?_
      refine t_norm (hK25 _ _ ?_)
      refine c_condb rfl (fun h38 => ?_) (fun h38 => ?_)
      · -- !(decide (((pgOf (pgB d.la (plc (i : Int))) (i : Int)).1.1) = x31.1 ∧ ((pgOf (pgB d.la (plc (i : Int))) (i : Int)).1.2.1) = x31.2.1 ∧ ((pgOf (pgB d.la (plc (i : Int))) (i : Int)).1.2.2) = x31.2.2.2))
        have h38_n : (decide (((pgOf (pgB d.la (plc (i : Int))) (i : Int)).1.1) = x31.1 ∧ ((pgOf (pgB d.la (plc (i : Int))) (i : Int)).1.2.1) = x31.2.1 ∧ ((pgOf (pgB d.la (plc (i : Int))) (i : Int)).1.2.2) = x31.2.2.2)) = false := by first | simpa using h38 | exact Bool.of_not_eq_true (fun g_ => by rw [g_] at h38; cases h38)
        exact absurd h38 (by have e_ : xa_ = x31 := Option.some.inj (hxa_.symm.trans (show now[i]? = some x31 from hx32)); rw [hpo_, ← e_]; simp [pgT])
      · -- not: !(decide (((pgOf (pgB d.la (plc (i : Int))) (i : Int)).1.1) = x31.1 ∧ ((pgOf (pgB d.la (plc (i : Int))) (i : Int)).1.2.1) = x31.2.1 ∧ ((pgOf (pgB d.la (plc (i : Int))) (i : Int)).1.2.2) = x31.2.2.2))
        have h38_n : (decide (((pgOf (pgB d.la (plc (i : Int))) (i : Int)).1.1) = x31.1 ∧ ((pgOf (pgB d.la (plc (i : Int))) (i : Int)).1.2.1) = x31.2.1 ∧ ((pgOf (pgB d.la (plc (i : Int))) (i : Int)).1.2.2) = x31.2.2.2)) = true := by first | simpa using h38 | exact Bool.of_not_eq_false (fun g_ => by rw [g_] at h38; cases h38)
        refine wp_skip ?_
        refine b_norm ?_
        refine t_norm (hK12 _ _ ?_)
        refine c_region ?_
        refine s_op (o_move (v := (.int .i64 (i : Int))) e4_5 ?_)
        refine s_op (o_add (a := (i : Int)) (b := 1) rfl rfl (w64 (by omega) (by omega)) ?_)
        refine s_op (o_assign (v := (.int .i64 ((i : Int) + 1))) rfl ?_)
        refine s_nil ?_
        have hH39 : Has E w37 [sg, [Hp.one pb (.cells #[(.bool d.p.off), (.bool d.p.armed), (.int .i64 d.p.left), (.int .i64 d.p.uses)] 101 (0, 0))], [Hp.one tb (.cells #[(.pointer (some ⟨db, 0, none⟩)), (.int .i64 n)] 98 (0, 0))], R] := ((((hH36.front 5 rfl).front 5 rfl).front 5 rfl).front 5 rfl).first 4 rfl
        refine t_norm ⟨now.length - (i + 1), _, rfl, ?_, ?_⟩
        · omega
        · exact ⟨(i + 1), rfl, hH39, (by omega), e4_0, e4_1, rfl⟩
  · -- not: (i : Int) < ((now.length : Nat) : Int)
    refine wp_exit ?_
    refine t_exit (t_exit (x_in (?_)))
    refine t_norm (hK2 _ _ ?_)
    refine wp_seq_k fun K40 hK40 => ?_
    refine c_region ?_
    refine s_op (o_move (v := (.pointer (some ⟨tb, 0, none⟩))) e4_0 ?_)
    refine s_op (o_move (v := v) e4_1 ?_)
    refine s_op (o_lenS Tryz.underlying31 rfl hv ?_)
    refine s_op (o_callf (vs := #[(.pointer (some ⟨tb, 0, none⟩)), (.int .i64 ((now.length : Nat) : Int))]) ca24 rfl (args2 rfl rfl) (tpage_none (d := d) (n := n) (((hH7.front 2 rfl).front 2 rfl).front 2 rfl).all3 hd (x := ((now.length : Nat) : Int)) (by omega)) ?_)
    rintro _ w43 ⟨rfl, hX41⟩
    refine ⟨_, rfl, ?_⟩
    have hH42 : Has E w43 [sg, [Hp.one pb (.cells #[(.bool d.p.off), (.bool d.p.armed), (.int .i64 d.p.left), (.int .i64 d.p.uses)] 101 (0, 0))], [Hp.one tb (.cells #[(.pointer (some ⟨db, 0, none⟩)), (.int .i64 n)] 98 (0, 0))], R] := hX41.of_all3
    refine s_op (o_move (v := (.tuple #[(.agg #[(.int .i64 0), (.int .i64 0), (.slice none 0 0)]), (.int .i64 (7 : Int))])) rfl ?_)
    refine s_op (o_extract (v := (.agg #[(.int .i64 0), (.int .i64 0), (.slice none 0 0)])) rfl rfl ?_)
    refine s_op (o_extract (v := (.int .i64 (7 : Int))) rfl rfl ?_)
    refine s_op (o_alloc (cs := #[(.int .i64 0), (.int .i64 0), (.slice none 0 0)]) ti36 rfl hH42 fun b44 w45 hH46 => ?_)
    refine s_eff (o_storeN (vs := [(.int .i64 0), (.int .i64 0), (.slice none 0 0)]) (c' := #[(.int .i64 0), (.int .i64 0), (.slice none 0 0)]) ti36 rfl rfl rfl rfl (by intro u hu; simp only [List.mem_cons, List.not_mem_nil, or_false] at hu; rcases hu with rfl | rfl | rfl <;> first | rfl) (by simp) (by kernel_rfl) (hH46.front 0 rfl) fun w47 hH48 => ?_)
    refine s_op (o_assign (v := (.int .i64 (7 : Int))) rfl ?_)
    refine s_nil ?_
    refine t_norm (hK40 _ _ ?_)
    refine wp_seq_k fun K49 hK49 => ?_
    refine c_region ?_
    refine s_op (o_move (v := (.pointer (some ⟨tb, 0, none⟩))) e4_0 ?_)
    refine s_op (o_callf (vs := #[(.pointer (some ⟨tb, 0, none⟩)), (.int .i64 (-1))]) ca24 rfl (args2 rfl rfl) (tpage_none (d := d) (n := n) (((hH48.front 3 rfl).front 3 rfl).front 3 rfl).all3 hd (x := -1) (by omega)) ?_)
    rintro _ w52 ⟨rfl, hX50⟩
    refine ⟨_, rfl, ?_⟩
    have hH51 : Has E w52 [sg, [Hp.one pb (.cells #[(.bool d.p.off), (.bool d.p.armed), (.int .i64 d.p.left), (.int .i64 d.p.uses)] 101 (0, 0))], [Hp.one tb (.cells #[(.pointer (some ⟨db, 0, none⟩)), (.int .i64 n)] 98 (0, 0))], [Hp.one b44 (.cells #[(.int .i64 0), (.int .i64 0), (.slice none 0 0)] 36 (0, 0))], R] := hX50.of_all3
    refine s_op (o_move (v := (.tuple #[(.agg #[(.int .i64 0), (.int .i64 0), (.slice none 0 0)]), (.int .i64 (7 : Int))])) rfl ?_)
    refine s_op (o_extract (v := (.agg #[(.int .i64 0), (.int .i64 0), (.slice none 0 0)])) rfl rfl ?_)
    refine s_op (o_extract (v := (.int .i64 (7 : Int))) rfl rfl ?_)
    refine s_op (o_alloc (cs := #[(.int .i64 0), (.int .i64 0), (.slice none 0 0)]) ti36 rfl hH51 fun b53 w54 hH55 => ?_)
    refine s_eff (o_storeN (vs := [(.int .i64 0), (.int .i64 0), (.slice none 0 0)]) (c' := #[(.int .i64 0), (.int .i64 0), (.slice none 0 0)]) ti36 rfl rfl rfl rfl (by intro u hu; simp only [List.mem_cons, List.not_mem_nil, or_false] at hu; rcases hu with rfl | rfl | rfl <;> first | rfl) (by simp) (by kernel_rfl) (hH55.front 0 rfl) fun w56 hH57 => ?_)
    refine s_op (o_assign (v := (.int .i64 (7 : Int))) rfl ?_)
    refine s_nil ?_
    refine t_norm (hK49 _ _ ?_)
    refine wp_seq_k fun K58 hK58 => ?_
    refine c_region ?_
    refine s_op (o_move (v := (.int .i64 (7 : Int))) rfl ?_)
    refine s_op (o_eql (a := (7 : Int)) (b := 7) rfl rfl ?_)
    refine s_op (o_move (v := (.bool (decide ((7 : Int) = 7)))) rfl ?_)
    by_cases h59 : (7 : Int) = 7
    · -- (7 : Int) = 7
      refine s_on 49 rfl (congrArg Value.bool (decide_eq_true h59)) (o_move (v := (.int .i64 (7 : Int))) rfl ?_)
      refine s_on 49 rfl (congrArg Value.bool (decide_eq_true h59)) (o_eql (a := (7 : Int)) (b := 7) rfl rfl ?_)
      refine s_op (o_pick_t (u := (.bool (decide ((7 : Int) = 7)))) ((rfl : _ = _).trans (congrArg Value.bool (decide_eq_true h59))) rfl ?_)
      refine s_op (o_move (v := (.bool (decide ((7 : Int) = 7)))) rfl ?_)
      refine s_on 53 rfl (congrArg Value.bool (decide_eq_true h59)) (o_move (v := (.pointer (some ⟨tb, 0, none⟩))) e4_0 ?_)
      refine s_on 53 rfl (congrArg Value.bool (decide_eq_true h59)) (o_callf (vs := #[(.pointer (some ⟨tb, 0, none⟩))]) ca28 rfl (args1 rfl) (tpages_c (db := db) (n := n) hH57.all ((CellsAt.one rfl).mono (seg_sub 3 rfl))) ?_)
      rintro _ w62 ⟨rfl, hX60⟩
      refine ⟨_, rfl, ?_⟩
      have hH61 := hX60.of_all
      refine s_on 53 rfl (congrArg Value.bool (decide_eq_true h59)) (o_move (v := v) e4_1 ?_)
      refine s_on 53 rfl (congrArg Value.bool (decide_eq_true h59)) (o_lenS Tryz.underlying31 rfl hv ?_)
      refine s_on 53 rfl (congrArg Value.bool (decide_eq_true h59)) (o_eql (a := n) (b := ((now.length : Nat) : Int)) rfl rfl ?_)
      refine s_op (o_pick_t (u := (.bool (decide (n = ((now.length : Nat) : Int))))) ((rfl : _ = _).trans (congrArg Value.bool (decide_eq_true h59))) rfl ?_)
      refine s_op (o_assign (v := (.bool (decide (n = ((now.length : Nat) : Int))))) rfl ?_)
      refine s_nil ?_
      refine t_norm (hK58 _ _ ?_)
      refine wp_ret ?_
      refine c_ret1 Tryz.results19  (v := (.bool (decide (n = ((now.length : Nat) : Int))))) rfl ?_
      have hH63 : Has E w62 [sg, [Hp.one pb (.cells #[(.bool d.p.off), (.bool d.p.armed), (.int .i64 d.p.left), (.int .i64 d.p.uses)] 101 (0, 0))], [Hp.one tb (.cells #[(.pointer (some ⟨db, 0, none⟩)), (.int .i64 n)] 98 (0, 0))], R] := ((((hH61.front 5 rfl).front 4 rfl).front 4 rfl).front 4 rfl).first 4 rfl
      exact ⟨by first | rfl | (rw [decide_eq_true (by omega)]), hH63⟩
    · -- not: (7 : Int) = 7
      exact absurd h59 (by decide)
end Go.Q
namespace Go.Q
theorem full_settle {lo : List (Int × Bs)} {k : Nat} (hl : LoOk lo k) : ∀ (keep : List Int) (la : List Bs), Full64 la → Full64 (settleS lo la keep)
  | [], la, h => h
  | m :: keep, la, h => by
    have e : settleS lo la (m :: keep) = settleS lo (match getB lo m with | some s => la.set m.toNat s | none => la) keep := rfl
    rw [e]
    cases g : getB lo m with
    | none => exact full_settle hl keep la h
    | some x =>
      refine full_settle hl keep _ ?_
      intro s hs
      rcases List.mem_or_eq_of_mem_set hs with hs | rfl
      · exact h s hs
      · exact (hl _ (getB_some g)).2
theorem full_wrsy {d : Dv} {g : Grp} (hl : LoOk d.lo d.la.length) (h : Full64 d.la) : Full64 (wrsy d g).2.la := by
  unfold wrsy
  split
  · show Full64 (syncA _ _ _)
    unfold syncA
    split
    · exact full_settle (lo_wrs g d hl) _ _ (by rw [wrs_la]; exact h)
    · rw [wrs_la]; exact h
  · rw [wrs_la]; exact h
theorem full_runs : ∀ (gs : List Grp) (d : Dv), d.lo = [] → Full64 d.la → Full64 (runs d gs).2.la
  | [], _, _, h => h
  | g :: t, d, hl, h => by
    have e : runs d (g :: t) = if (wrsy d g).1 = 0 then runs (wrsy d g).2 t else wrsy d g := rfl
    have hg := full_wrsy (g := g) (by rw [hl]; exact LoOk.nil _) h
    rw [e]
    split
    · rename_i h0; exact full_runs t _ (wrsy_zero h0) hg
    · exact hg
theorem full_st1 {d : Dv} {n : Int} {a : Pg} (hl : d.lo = []) (h : Full64 d.la) : Full64 (st1 d n a).2.la := by
  unfold st1
  split
  · exact h
  · exact full_runs _ _ hl h
/-- a power that nobody armed -/
theorem wrs_ne6 : ∀ (g : Grp) (d : Dv), d.p.off = false → d.p.armed = false → (wrs d g).1 ≠ 6 ∧ (wrs d g).2.p.off = false ∧ (wrs d g).2.p.armed = false
  | [], _, h1, h2 => ⟨(show (0 : Int) ≠ 6 by decide), h1, h2⟩
  | (n, s) :: t, d, h1, h2 => by
    have hb : useB d.p = true ∧ (useS d.p).off = false ∧ (useS d.p).armed = false := by
      unfold useB useS
      rw [h1, h2]
      exact ⟨rfl, rfl, rfl⟩
    have e : wrs d ((n, s) :: t) = if d.wrE n s = 0 then wrs (d.wr n s) t else (d.wrE n s, d.wr n s) := rfl
    rw [e]
    split
    · exact wrs_ne6 t (d.wr n s) hb.2.1 hb.2.2
    · refine ⟨?_, hb.2.1, hb.2.2⟩
      unfold Dv.wrE writeE
      rw [if_pos hb.1]
      split
      · show (0 : Int) ≠ 6; decide
      · show (1 : Int) ≠ 6; decide
theorem wrsy_ne6 {g : Grp} {d : Dv} (h1 : d.p.off = false) (h2 : d.p.armed = false) : (wrsy d g).1 ≠ 6 ∧ (wrsy d g).2.p.off = false ∧ (wrsy d g).2.p.armed = false := by
  obtain ⟨a1, a2, a3⟩ := wrs_ne6 g d h1 h2
  unfold wrsy
  split
  · have hb : useB (wrs d g).2.p = true ∧ (useS (wrs d g).2.p).off = false ∧ (useS (wrs d g).2.p).armed = false := by
      unfold useB useS
      rw [a2, a3]
      exact ⟨rfl, rfl, rfl⟩
    refine ⟨?_, hb.2.1, hb.2.2⟩
    unfold Dv.syE syncE
    rw [if_pos hb.1]
    show (0 : Int) ≠ 6; decide
  · exact ⟨a1, a2, a3⟩
theorem runs_ne6 : ∀ (gs : List Grp) (d : Dv), d.p.off = false → d.p.armed = false → (runs d gs).1 ≠ 6 ∧ (runs d gs).2.p.off = false ∧ (runs d gs).2.p.armed = false
  | [], _, h1, h2 => ⟨(show (0 : Int) ≠ 6 by decide), h1, h2⟩
  | g :: t, d, h1, h2 => by
    have e : runs d (g :: t) = if (wrsy d g).1 = 0 then runs (wrsy d g).2 t else wrsy d g := rfl
    obtain ⟨a1, a2, a3⟩ := wrsy_ne6 (g := g) h1 h2
    rw [e]
    split
    · exact runs_ne6 t _ a2 a3
    · exact ⟨a1, a2, a3⟩
theorem mend_ne6 {d : Dv} {n : Int} (h1 : d.p.off = false) (h2 : d.p.armed = false) : (mendR d n).1 ≠ 6 := by
  unfold mendR
  rw [if_neg (by rw [h1]; decide)]
  split
  · show (9 : Int) ≠ 6; decide
  · split
    · show (0 : Int) ≠ 6; decide
    · split
      · exact (runs_ne6 _ _ h1 h2).1
      · show (9 : Int) ≠ 6; decide
theorem st_spec2 {d : Dv} {n : Nat} {B : Nat → Bs} {a : Pg} (hlo : d.lo = []) (hT : Tw d.la n B) (ho : d.p.off = false) :
    ((st1 d n a).1 = 0 ∧ lpg a ≠ [] ∧ a.1 < (n : Int) ∧ Tw (st1 d n a).2.la n (updB B a.1.toNat (lpg a)) ∧ (st1 d n a).2.lo = [] ∧ (st1 d n a).2.p.off = false) ∨
    ((st1 d n a).1 = 6 ∧ lpg a ≠ [] ∧ a.1 < (n : Int) ∧ LoOk (st1 d n a).2.lo (st1 d n a).2.la.length ∧ ∀ keep, Pend (settleS (st1 d n a).2.lo (st1 d n a).2.la keep) n B a.1.toNat (lpg a)) ∨ st1 d n a = (1, d) := by
  by_cases hs : lpg a = []
  · exact .inr (.inr (if_pos (.inl hs)))
  · by_cases hn : a.1 < (n : Int)
    · rw [Dv.eta0 hlo]
      rcases st_spec (p := d.p) (a := a) hT ho hs hn with ⟨h1, h2, h3, h4⟩ | ⟨h1, h2, h3⟩
      · exact .inl ⟨h1, hs, hn, h2, h3, h4⟩
      · exact .inr (.inl ⟨h1, hs, hn, h2, h3⟩)
    · exact .inr (.inr (if_pos (.inr (by omega))))
/-- how TwiceCrashes stands: nothing under way, or one page -/
def TcS (d : Dv) (now ul : List Pg) (B : Nat → Bs) : Prop :=
  Told now B 6 ∧ LoOk d.lo d.la.length ∧ ((ul = [] ∧ d.lo = [] ∧ d.p.off = false ∧ Tw d.la 6 B) ∨ (∃ a, ul = [a] ∧ lpg a ≠ [] ∧ a.1 < 6 ∧ ∀ keep, Pend (settleS d.lo d.la keep) 6 B a.1.toNat (lpg a)))
theorem TcS.go {d : Dv} {now : List Pg} {B : Nat → Bs} (h : TcS d now [] B) : Told now B 6 ∧ d.lo = [] ∧ d.p.off = false ∧ Tw d.la 6 B := by
  obtain ⟨h1, _, ⟨_, h2, h3, h4⟩ | ⟨a, e, _⟩⟩ := h
  · exact ⟨h1, h2, h3, h4⟩
  · cases e
theorem lpg_no {a : Pg} (h : lpg a ≠ []) : 0 ≤ a.1 ∧ a.1 < 64 := page_no (lpg_right h)
theorem lpg_of {a : Pg} (h : lpg a ≠ []) : pgOf (lpg a) a.1 = (pgT a, 0) := pgOf_laid (lpg_right h)
theorem TcS.ok {d : Dv} {now : List Pg} {B : Nat → Bs} {a : Pg} (h : TcS d now [] B) (e : (st1 d 6 a).1 = 0) : (0 ≤ a.1 ∧ a.1 < 6) ∧ TcS (st1 d 6 a).2 (now.set a.1.toNat a) [] (updB B a.1.toNat (lpg a)) := by
  obtain ⟨h1, h2, h3, h4⟩ := h.go
  rcases st_spec2 (n := 6) (a := a) h2 h4 h3 with ⟨_, q2, q3, q4, q5, q6⟩ | ⟨q, _⟩ | q
  · have hn := lpg_no q2
    refine ⟨⟨hn.1, q3⟩, h1.set (by omega) (by rw [show ((a.1.toNat : Nat) : Int) = a.1 by omega]; exact lpg_of q2), ?_, .inl ⟨rfl, q5, q6, q4⟩⟩
    exact (show LoOk (st1 d 6 a).2.lo (st1 d 6 a).2.la.length from by rw [show (st1 d 6 a).2.lo = [] from q5]; exact LoOk.nil _)
  · exact absurd (q.symm.trans e) (by decide)
  · have e2 : (st1 d 6 a).1 = 1 := congrArg Prod.fst q
    rw [e2] at e; cases e
theorem TcS.off {d : Dv} {now : List Pg} {B : Nat → Bs} {a : Pg} (h : TcS d now [] B) (e : (st1 d 6 a).1 = 6) : TcS (st1 d 6 a).2 now [a] B := by
  obtain ⟨h1, h2, h3, h4⟩ := h.go
  rcases st_spec2 (n := 6) (a := a) h2 h4 h3 with ⟨q, _⟩ | ⟨_, q2, q3, q4, q5⟩ | q
  · exact absurd (q.symm.trans e) (by decide)
  · exact ⟨h1, q4, .inr ⟨a, rfl, q2, q3, q5⟩⟩
  · have e2 : (st1 d 6 a).1 = 1 := congrArg Prod.fst q
    rw [e2] at e; cases e
/-- behind the first crash, and behind the mending that another one may end -/
def TcP (la : List Bs) (ul : List Pg) (B : Nat → Bs) : Prop := (ul = [] ∧ Tw la 6 B) ∨ (∃ a, ul = [a] ∧ lpg a ≠ [] ∧ a.1 < 6 ∧ Pend la 6 B a.1.toNat (lpg a))
theorem TcS.crash {d : Dv} {now ul : List Pg} {B : Nat → Bs} (h : TcS d now ul B) (keep : List Int) : TcP (d.cr keep).la ul B := by
  obtain ⟨_, _, ⟨h1, h2, _, h4⟩ | ⟨a, h1, h2, h3, h4⟩⟩ := h
  · refine .inl ⟨h1, ?_⟩
    show Tw (settleS d.lo d.la keep) 6 B
    rw [h2, settle_none]; exact h4
  · exact .inr ⟨a, h1, h2, h3, h4 keep⟩
theorem TcP.open {d : Dv} {ul : List Pg} {B : Nat → Bs} (h : TcP d.la ul B) (hlo : d.lo = []) (ho : d.p.off = false) (ha : d.p.armed = false) :
    (mendR d 6).1 = 0 ∧ (mendR d 6).2.lo = [] ∧ (mendR d 6).2.p.off = false ∧ ((ul = [] ∧ Tw (mendR d 6).2.la 6 B) ∨ (∃ a, ul = [a] ∧ lpg a ≠ [] ∧ a.1 < 6 ∧ (Tw (mendR d 6).2.la 6 B ∨ Tw (mendR d 6).2.la 6 (updB B a.1.toNat (lpg a))))) := by
  have h6 := mend_ne6 (n := 6) ho ha
  rw [Dv.eta0 hlo] at h6 ⊢
  rcases h with ⟨h1, h2⟩ | ⟨a, h1, h2, h3, h4⟩
  · have e : mendR ⟨d.p, d.la, []⟩ 6 = (0, ⟨d.p, d.la, []⟩) := tw_mend (p := d.p) h2 ho
    rw [e]
    exact ⟨rfl, rfl, ho, .inl ⟨h1, h2⟩⟩
  · have hn := lpg_no h2
    have ea : ((a.1.toNat : Nat) : Int) = a.1 := by omega
    have el : laidP (a.1.toNat : Int) a.2.1 a.2.2.2 = lpg a := by rw [ea]; rfl
    have H := mend_spec (p := d.p) (n := 6) (B := B) (no := a.1.toNat) (gsn := a.2.1) (l := a.2.2.2) (by rw [el]; exact h4) (by rw [ea]; exact lpg_right h2) (by omega) (by decide) ho
    rw [el] at H
    rcases H with ⟨q1, q2, q3, q4⟩ | ⟨q1, _⟩
    · exact ⟨q1, q3, q4, .inr ⟨a, h1, h2, h3, q2⟩⟩
    · exact absurd q1 h6
end Go.Q
namespace Go.Q
def eP (i : Int) : Pg := (i, 0, .slice none 0 0, [])
def emptyS (m : Nat) : List Pg := (List.range m).map (fun k : Nat => eP k)
theorem empty_len (m : Nat) : (emptyS m).length = m := by unfold emptyS; rw [List.length_map, List.length_range]
theorem empty_next (i : Nat) : emptyS (i + 1) = emptyS i ++ [eP i] := by unfold emptyS; rw [List.range_succ, List.map_append]; rfl
theorem empty_get {m k : Nat} (h : k < m) : (emptyS m)[k]? = some (eP k) := by
  unfold emptyS
  rw [List.getElem?_map, List.getElem?_range h]; rfl
theorem empty_in {L : List Hp} {m : Nat} : ∀ a ∈ emptyS m, PgIn L a := by
  intro a ha
  obtain ⟨k, _, rfl⟩ := List.mem_map.1 ha
  exact sl_nil 2
theorem one_pgA {L : List Hp} {a : Pg} (h : PgIn L a) : ∀ u ∈ [a].flatMap pgC, u.oneCell' = true := by
  intro u hu
  obtain ⟨p, cap, e, _⟩ := h
  have hu2 : u ∈ pgC a := by simpa using hu
  simp only [pgC, List.mem_cons, List.not_mem_nil, or_false] at hu2
  rcases hu2 with rfl | rfl | rfl
  · rfl
  · rfl
  · rw [e]; rfl
theorem one_eP (i : Int) : ∀ u ∈ [eP i].flatMap pgC, u.oneCell' = true := one_pgA (L := []) (a := eP i) (sl_nil 2)
theorem sec_blank {m : Nat} {x : Int} (h : x.toNat < m) : sec (List.replicate m blankS) x = blankS := by
  unfold sec
  rw [List.getElem?_replicate, if_pos h]; rfl
theorem tw_start {n m : Nat} (h : 5 + 4 * n ≤ m) : Tw (List.replicate m blankS) n (fun _ => zer 256) := by
  refine ⟨by rw [List.length_replicate]; exact h, sec_blank (by show 0 < m; omega), fun k hk => ?_⟩
  unfold pgB
  have hp : plc (k : Int) = 5 + (k : Int) * 4 := rfl
  rw [sec_blank (by omega), sec_blank (by omega), sec_blank (by omega), sec_blank (by omega)]
  unfold blankS zer
  simp only [List.replicate_append_replicate]
theorem told_start (n : Nat) : Told (emptyS n) (fun _ => zer 256) n := ⟨empty_len n, fun k hk => ⟨eP k, empty_get hk, if_pos rfl⟩⟩
end Go.Q
namespace Go.Q
open Go.Proofs
set_option linter.unusedVariables false
set_option maxRecDepth 100000
attribute [local irreducible] wpList OK Code.wp
set_option maxHeartbeats 4000000 in
theorem empty12_c {E w : World} {R : List Hp} (hH : Has E w [R]) {m : Nat} (hm : m ≤ 1000) :
    Calls Tryz.prog 15 #[(.int .i64 (m : Int))] w fun e w' => ∃ v' hs', e = .returned v' ∧ Own 36 3 v' (emptyS m).length ((emptyS m).flatMap pgC) hs' ∧ Has E w' [hs', R] := by
  refine c_enter (args := [(.int .i64 (m : Int))]) Tryz.func15 rfl Tryz.ntmps15 (by simp) ?_
  refine wp_seq_k fun K1 hK1 => ?_
  refine c_region ?_
  refine s_op (o_assign (v := (.slice none 0 0)) rfl ?_)
  refine s_nil ?_
  refine t_norm (hK1 _ _ ?_)
  refine wp_seq_k fun K2 hK2 => ?_
  refine c_region ?_
  refine s_op (o_assign (v := (.slice none 0 0)) rfl ?_)
  refine s_nil ?_
  refine t_norm (hK2 _ _ ?_)
  refine wp_seq_k fun K3 hK3 => ?_
  refine wp_seq_k fun K4 hK4 => ?_
  refine c_region ?_
  refine s_op (o_assign (v := (.int .i64 0)) rfl ?_)
  refine s_nil ?_
  refine t_norm (hK4 _ _ ?_)
  refine wp_block ?_
  let I6 : Nat → (Nat → Value) → World → Prop := fun n__ r__ w__ => ∃ (i : Nat) (va : Value) (sa : List Hp) (acc : List Pg), n__ = m - i ∧ Has E w__ [sa, R] ∧ (i ≤ m) ∧ (Own 36 3 va acc.length (acc.flatMap pgC) sa) ∧ (acc = emptyS i) ∧ r__ 0 = (.int .i64 (m : Int)) ∧ r__ 2 = (.slice none 0 0) ∧ r__ 3 = va ∧ r__ 4 = (.int .i64 (i : Int))
  have hH7 : Has E w [[], R] := (Has.nil hH).first 2 rfl
  refine c_loop I6 _ ⟨0, (.slice none 0 0), [], [], rfl, hH7, Nat.zero_le _, Own.nil 36 3, rfl, rfl, rfl, rfl, rfl⟩ ?_
  rintro n_ r10 w8 ⟨i, va, sa, acc, rfl, hH9, hi, hoa, hacc, e5_0, e5_2, e5_3, e5_4⟩
  refine wp_seq_k fun K11 hK11 => ?_
  refine wp_seq_k fun K12 hK12 => ?_
  refine c_region ?_
  refine s_op (o_move (v := (.int .i64 (i : Int))) e5_4 ?_)
  refine s_op (o_move (v := (.int .i64 (m : Int))) e5_0 ?_)
  refine s_op (o_lss (a := (i : Int)) (b := (m : Int)) rfl rfl ?_)
  refine s_nil ?_
  refine t_norm (hK12 _ _ ?_)
  refine c_cond rfl (fun h13 => ?_) (fun h13 => ?_)
  · -- (i : Int) < (m : Int)
    refine wp_skip ?_
    refine t_norm (hK11 _ _ ?_)
    refine wp_seq_k fun K14 hK14 => ?_
    refine wp_block ?_
    refine c_region ?_
    refine s_op (o_move (v := va) e5_3 ?_)
    refine s_op (o_move (v := (.int .i64 (i : Int))) e5_4 ?_)
    refine s_op (o_sight (v := (.agg #[(.int .i64 (i : Int)), (.int .i64 0), (.slice none 0 0)])) (fun _ => by kernel_rfl) ?_)
    refine s_op (o_buildSlice (ps := #[(0, (.agg #[(.int .i64 (i : Int)), (.int .i64 0), (.slice none 0 0)]))]) (cells := #[(.int .i64 (i : Int)), (.int .i64 0), (.slice none 0 0)]) Tryz.underlying31 ti36 (by decide) (parts1 rfl) (by kernel_rfl) hH9 fun b15 w16 hH17 => ?_)
    refine s_op (o_append Tryz.underlying31 ti36 rfl (by decide) rfl hoa rfl (sl_litF (f := pgC) (l := [(((i : Int), 0, (.slice none 0 0), ([] : List Cel)) : Pg)]) pgC_len rfl rfl (by simp)) (hH17.front 1 rfl) (seg_sub 0 rfl) (one_eP _) (by rw [hacc, empty_len]; simp only [List.length_cons, List.length_nil]; omega) (by rw [hacc, empty_len]; simp only [List.length_cons, List.length_nil]; omega) fun v18 s19 w21 ho20 hH22 => ?_)
    have ho20 : Own 36 3 v18 (acc ++ [(((i : Int), 0, (.slice none 0 0), ([] : List Cel)) : Pg)]).length ((acc ++ [(((i : Int), 0, (.slice none 0 0), ([] : List Cel)) : Pg)]).flatMap pgC) s19 := ho20.appF
    refine s_op (o_assign (v := v18) rfl ?_)
    refine s_nil ?_
    refine b_norm ?_
    refine t_norm (hK14 _ _ ?_)
    refine c_region ?_
    refine s_op (o_move (v := (.int .i64 (i : Int))) e5_4 ?_)
    refine s_op (o_add (a := (i : Int)) (b := 1) rfl rfl (w64 (by omega) (by omega)) ?_)
    refine s_op (o_assign (v := (.int .i64 ((i : Int) + 1))) rfl ?_)
    refine s_nil ?_
    have hH23 : Has E w21 [s19, R] := ((hH22.front 2 rfl).front 1 rfl).first 2 rfl
    refine t_norm ⟨m - (i + 1), _, rfl, ?_, ?_⟩
    · omega
    · exact ⟨(i + 1), v18, s19, (acc ++ [(((i : Int), 0, (.slice none 0 0), ([] : List Cel)) : Pg)]), rfl, hH23, (by omega), (ho20), (by rw [empty_next, ← hacc]; rfl), e5_0, e5_2, rfl, rfl⟩
  · -- not: (i : Int) < (m : Int)
    refine wp_exit ?_
    refine t_exit (t_exit (x_in (?_)))
    refine t_norm (hK3 _ _ ?_)
    refine wp_seq_k fun K24 hK24 => ?_
    refine c_region ?_
    refine s_op (o_move (v := va) e5_3 ?_)
    refine s_op (o_assign (v := va) rfl ?_)
    refine s_nil ?_
    refine t_norm (hK24 _ _ ?_)
    refine wp_ret ?_
    refine c_ret1 Tryz.results15  (v := va) rfl ?_
    have ei_ : i = m := by omega
    rw [ei_] at hacc
    exact ⟨_, _, rfl, by rw [← hacc]; exact hoa, hH9⟩
end Go.Q
namespace Go.Q
def grV (g : Gr) : Value := g.1
theorem gr_map : ∀ l : List Gr, l.flatMap grC = l.map grV
  | [] => rfl
  | g :: t => by rw [List.flatMap_cons, gr_map t]; rfl
/-- pages are as they are told, and nothing is under way -/
structure TsS (d : Dv) (n : Int) (now : List Pg) (B : Nat → Bs) : Prop where
  told : Told now B n.toNat
  tw : Tw d.la n.toNat B
  lo : d.lo = []
  off : d.p.off = false
  arm : d.p.armed = false
  full : Full64 d.la
theorem st1_ne6 {d : Dv} {n : Int} {a : Pg} (h1 : d.p.off = false) (h2 : d.p.armed = false) : (st1 d n a).1 ≠ 6 ∧ (st1 d n a).2.p.armed = false := by
  unfold st1
  split
  · exact ⟨(show (1 : Int) ≠ 6 by decide), h2⟩
  · have h := runs_ne6 (stG a.1 (lpg a)) d h1 h2
    exact ⟨h.1, h.2.2⟩
theorem lpg_ne {a : Pg} (h : pageR a.1 a.2.1 a.2.2.2 = true) : lpg a ≠ [] := fun e => by
  have h1 : (lpg a).length = 256 := laidP_len h
  rw [e] at h1; cases h1
theorem TsS.ok {d : Dv} {n : Int} {now : List Pg} {B : Nat → Bs} {a : Pg} (h0 : 0 ≤ n) (h : TsS d n now B) (hr : pageR a.1 a.2.1 a.2.2.2 = true) (hn : ¬ n ≤ a.1) :
    0 ≤ a.1 ∧ (st1 d n a).1 = 0 ∧ TsS (st1 d n a).2 n (now.set a.1.toNat a) (updB B a.1.toNat (lpg a)) := by
  obtain ⟨m, rfl⟩ : ∃ m : Nat, n = (m : Int) := ⟨n.toNat, (Int.toNat_of_nonneg h0).symm⟩
  have hp := page_no hr
  have h6 := st1_ne6 (n := (m : Int)) (a := a) h.off h.arm
  have ht : Told now B m := by have h_ := h.told; rwa [Int.toNat_natCast] at h_
  have hw : Tw d.la m B := by have h_ := h.tw; rwa [Int.toNat_natCast] at h_
  have hq := st_spec (p := d.p) (a := a) hw h.off (lpg_ne hr) (by omega)
  rw [← Dv.eta0 h.lo] at hq
  rcases hq with ⟨q1, q4, q5, q6⟩ | ⟨q, _⟩
  · refine ⟨hp.1, q1, ⟨?_, by rw [Int.toNat_natCast]; exact q4, q5, q6, h6.2, full_st1 h.lo h.full⟩⟩
    rw [Int.toNat_natCast]
    exact ht.set (by omega) (by rw [show ((a.1.toNat : Nat) : Int) = a.1 by omega]; exact lpg_of (lpg_ne hr))
  · exact absurd q h6.1
theorem TsS.no {d : Dv} {n : Int} {a : Pg} (hr : pageR a.1 a.2.1 a.2.2.2 = false ∨ n ≤ a.1) : st1 d n a = (1, d) := by
  refine if_pos (hr.imp (fun h => laidP_no h) id)
theorem ts_stop {d0 d : Dv} {n : Int} {l : List Pg} {k : Nat} {a : Pg} (hx : l[k]? = some a) (h : stL d0 n l = stL d n (l.drop k)) (hr : pageR a.1 a.2.1 a.2.2.2 = false ∨ n ≤ a.1) : stL d0 n l = (1, d) := by
  have e := TsS.no (d := d) hr
  rw [stL_stop hx h (by rw [e]; show (1 : Int) ≠ 0; decide), e]
theorem ts_end {d0 d : Dv} {n wt : Int} {l : List Pg} {k : Nat} (h : (wt = 0 ∧ stL d0 n l = stL d n (l.drop k)) ∨ (wt = 1 ∧ stL d0 n l = (1, d))) (hk : l.length ≤ k ∨ wt ≠ 0) : stL d0 n l = (wt, d) := by
  rcases h with ⟨e, h⟩ | ⟨e, h⟩
  · rw [h, List.drop_of_length_le (hk.resolve_right (fun g => g e)), e]; rfl
  · rw [h, e]
theorem tw_mendI {d : Dv} {n : Int} {now : List Pg} {B : Nat → Bs} (h0 : 0 ≤ n) (h : TsS d n now B) : mendR d n = (0, d) := by
  obtain ⟨m, rfl⟩ : ∃ m : Nat, n = (m : Int) := ⟨n.toNat, (Int.toNat_of_nonneg h0).symm⟩
  have hw : Tw d.la m B := by have h_ := h.tw; rwa [Int.toNat_natCast] at h_
  have e : d = ⟨d.p, d.la, []⟩ := Dv.eta0 h.lo
  rw [e]
  exact tw_mend hw h.off
theorem ts_start {p : Pw} {n : Int} {m : Nat} (h0 : 1 ≤ n) (hm : 5 + n * 4 ≤ (m : Int)) (ho : p.off = false) (ha : p.armed = false) : TsS ⟨p, List.replicate m blankS, []⟩ n (emptyS n.toNat) (fun _ => zer 256) :=
  ⟨told_start _, tw_start (by omega), rfl, ho, ha, fun s hs => by rw [(List.mem_replicate.1 hs).2]; rfl⟩
theorem keys_none : (keysS ([] : List (Int × Bs))).length = 0 := by unfold keysS; simp
end Go.Q
namespace Go.Q
open Go.Proofs
set_option linter.unusedVariables false
set_option maxRecDepth 100000
attribute [local irreducible] wpList OK Code.wp
theorem tstoreE_c {E w : World} {R sg : List Hp} {pb db tb : Nat} {d : Dv} {n : Int} (hH : Has E w [sg, [Hp.one pb (.cells #[(.bool d.p.off), (.bool d.p.armed), (.int .i64 d.p.left), (.int .i64 d.p.uses)] 101 (0, 0))], [Hp.one tb (.cells #[(.pointer (some ⟨db, 0, none⟩)), (.int .i64 n)] 98 (0, 0))], R]) (hd : DevAt pb sg db d.la d.lo) {k : Nat} (hf : Few d.p k) (hk : k ≤ 800000) (hlo : d.lo = []) (h4 : d.la.length ≤ 4096) (hg : CellsAt R 1 0 nibV) {v : Value} {l : List Pg} (hv : Sl R 3 v l.length (l.flatMap pgC)) (hok : ∀ a ∈ l, PgIn R a) (hll : l.length ≤ 1000) {r : Int} {d2 : Dv} (hE : stL d n l = (r, d2)) :
    Calls Tryz.prog 18 #[.pointer (some ⟨tb, 0, none⟩), v] w fun e w' => ∃ sg', e = .returned (.int .i64 r) ∧ DevAt pb sg' db d2.la d2.lo ∧ Has E w' [sg', [Hp.one pb (.cells #[(.bool d2.p.off), (.bool d2.p.armed), (.int .i64 d2.p.left), (.int .i64 d2.p.uses)] 101 (0, 0))], [Hp.one tb (.cells #[(.pointer (some ⟨db, 0, none⟩)), (.int .i64 n)] 98 (0, 0))], R] := by
  have h_ := tstoreL_c hH hd hf hk hlo h4 hg hv hok hll
  rw [hE] at h_
  exact h_
theorem new_nilI {E w : World} {R : List Hp} (hH : Has E w [R]) {x : Int} {n : Nat} (hx : x = (n : Int)) (hn : 1 ≤ n ∧ n ≤ 4096) :
    Calls Tryz.prog 14 #[(.pointer none), (.int .i64 x)] w fun e w' => ∃ db pb sg, e = .returned (.pointer (some ⟨db, 0, none⟩)) ∧ DevAt pb sg db (List.replicate n blankS) [] ∧ Has E w' [sg, [Hp.one pb (.cells #[(.bool false), (.bool false), (.int .i64 0), (.int .i64 0)] 101 (0, 0))], R] := by
  subst hx
  exact new_nil hH hn
theorem empty12n_c {E w : World} {R : List Hp} (hH : Has E w [R]) {n : Int} (hn : 0 ≤ n ∧ n ≤ 1000) : Calls Tryz.prog 15 #[.int .i64 n] w fun e w' => ∃ v' hs', e = .returned v' ∧ Own 36 3 v' (emptyS n.toNat).length ((emptyS n.toNat).flatMap pgC) hs' ∧ Has E w' [hs', R] := by
  obtain ⟨m, rfl⟩ : ∃ m : Nat, n = (m : Int) := ⟨n.toNat, by omega⟩
  rw [Int.toNat_natCast]
  exact empty12_c hH (by omega)
end Go.Q
