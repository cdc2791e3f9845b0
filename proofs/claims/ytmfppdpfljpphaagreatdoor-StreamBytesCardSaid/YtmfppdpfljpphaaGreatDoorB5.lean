/-
  Parts of a walk: what functions of the program compute, each told by a theorem (Qsm13, Qsm10, QStmK, QStmA, QEq, QsEq8, Qsm15, Qsn2, Qsf6, Qsh4, Qsh9, QStmB).
-/
import Derived.Test.YtmfppdpfljpphaaGreatDoorB4
import Derived.Laws.StructEq
set_option linter.unusedVariables false
set_option linter.unusedSimpArgs false
set_option linter.unnecessarySimpa false
namespace Go.Q
open Go.Proofs
set_option linter.unusedVariables false
set_option maxRecDepth 100000
attribute [local irreducible] wpList OK Code.wp
set_option maxHeartbeats 4000000 in
theorem sopen_any {E w : World} {R sg : List Hp} {pb db : Nat} {d : Dv} (hH : Has E w [sg, [Hp.one pb (.cells #[(.bool d.p.off), (.bool d.p.armed), (.int .i64 d.p.left), (.int .i64 d.p.uses)] 145 (0, 0))], R]) (hd : DevAt pb sg db d.la d.lo) (h4 : d.la.length ≤ 4096) (h3 : 3 ≤ d.la.length) (hon : d.p.off = false) (h64 : Full64 d.la) (hlo : d.lo = []) (hg : CellsAt R 0 0 nibV) :
  Calls Tryz.prog 16 #[(.pointer (some ⟨db, 0, none⟩))] w fun e w' => (opE d (((d.la.length : Nat) : Int) - 2) = 0 ∧ ∃ sb ab sg' ss, e = .returned (.tuple #[.pointer (some ⟨sb, 0, none⟩), .int .i64 0]) ∧ DevAt pb sg' db d.la d.lo ∧ StmAt db ab sb ss (opS d (((d.la.length : Nat) : Int) - 2)) ∧ Has E w' [ss, [Hp.one ab (.cells #[(.pointer (some ⟨db, 0, none⟩)), (.int .i64 2), (.int .i64 (((d.la.length : Nat) : Int) - 2))] 265 (0, 0))], sg', [Hp.one pb (.cells #[(.bool d.p.off), (.bool d.p.armed), (.int .i64 d.p.left), (.int .i64 d.p.uses)] 145 (0, 0))], R]) ∨ (opE d (((d.la.length : Nat) : Int) - 2) ≠ 0 ∧ e = .returned (.tuple #[.pointer none, .int .i64 (opE d (((d.la.length : Nat) : Int) - 2))]) ∧ Has E w' [sg, [Hp.one pb (.cells #[(.bool d.p.off), (.bool d.p.armed), (.int .i64 d.p.left), (.int .i64 d.p.uses)] 145 (0, 0))], R]) := by
 have hd0_ : DevAt pb sg db d.la [] := by rw [← hlo]; exact hd
 have hlk : LoOk d.lo d.la.length := by rw [hlo]; exact LoOk.nil _
 refine zs (args := [(.pointer (some ⟨db, 0, none⟩))]) Tryz.func16 rfl Tryz.ntmps16 (by simp) ?_
 refine wp_seq_k fun K1 hK1 => ?_
 refine zb ?_
 refine za (ze (v := (.pointer none)) rfl ?_)
 refine za (ze (v := (.int .i64 0)) rfl ?_)
 refine zf ?_
 refine zc (hK1 _ _ ?_)
 refine wp_seq_k fun K2 hK2 => ?_
 refine zb ?_
 refine za (zd (v := (.pointer (some ⟨db, 0, none⟩))) rfl ?_)
 refine za (zk (vs := #[(.pointer (some ⟨db, 0, none⟩))]) ca96 rfl (zF rfl) (sbegin_ok ((hH.front 1 rfl).front 1 rfl).all2 hd h4 h3 hon) ?_)
 rintro _ w6 ⟨ab3, rfl, hX4⟩
 refine ⟨_, rfl, ?_⟩
 have hH5 : Has E w6 [[Hp.one ab3 (.cells #[(.pointer (some ⟨db, 0, none⟩)), (.int .i64 2), (.int .i64 (((d.la.length : Nat) : Int) - 2))] 265 (0, 0))], sg, [Hp.one pb (.cells #[(.bool d.p.off), (.bool d.p.armed), (.int .i64 d.p.left), (.int .i64 d.p.uses)] 145 (0, 0))], R] := hX4.of_all3
 refine za (zd (v := (.tuple #[(.pointer (some ⟨ab3, 0, none⟩)), (.int .i64 (0 : Int))])) rfl ?_)
 refine za (zp (v := (.pointer (some ⟨ab3, 0, none⟩))) rfl rfl ?_)
 refine za (zp (v := (.int .i64 (0 : Int))) rfl rfl ?_)
 refine za (ze (v := (.pointer (some ⟨ab3, 0, none⟩))) rfl ?_)
 refine za (ze (v := (.int .i64 (0 : Int))) rfl ?_)
 refine zf ?_
 refine zc (hK2 _ _ ?_)
 refine wp_seq_k fun K7 hK7 => ?_
 refine wp_seq_k fun K8 hK8 => ?_
 refine zb ?_
 refine za (zd (v := (.int .i64 (0 : Int))) rfl ?_)
 refine za (o_neq (a := (0 : Int)) (b := 0) rfl rfl ?_)
 refine zf ?_
 refine zc (hK8 _ _ ?_)
 refine zt rfl (fun h9 => ?_) (fun h9 => ?_)
 ·
  exact absurd h9 (by decide)
 ·
  refine wp_skip ?_
  refine zc (hK7 _ _ ?_)
  refine wp_seq_k fun K10 hK10 => ?_
  refine zb ?_
  refine za (zd (v := (.pointer (some ⟨db, 0, none⟩))) rfl ?_)
  refine za (zk (vs := #[(.pointer (some ⟨db, 0, none⟩)), (.int .i64 0)]) ca97 rfl (zI rfl rfl) (hload_c (p := d.p) (la := d.la) ((hH5.front 2 rfl).front 2 rfl).all2 hd0_ (hg.mono (zh 1 rfl)) h64 h4 0) ?_)
  rintro _ w13 ⟨rfl, hX11⟩
  refine ⟨_, rfl, ?_⟩
  have hH12 : Has E w13 [sg, [Hp.one pb (.cells #[(.bool d.p.off), (.bool d.p.armed), (.int .i64 d.p.left), (.int .i64 d.p.uses)] 145 (0, 0))], [Hp.one ab3 (.cells #[(.pointer (some ⟨db, 0, none⟩)), (.int .i64 2), (.int .i64 (((d.la.length : Nat) : Int) - 2))] 265 (0, 0))], R] := hX11.of_all2
  refine za (zd (v := (.tuple #[(.agg #[(.int .i64 (ldH d.p d.la 0).seq), (.int .i64 (ldH d.p d.la 0).ep), (.int .i64 (ldH d.p d.la 0).cut), (.int .i64 (ldH d.p d.la 0).st), (.int .i64 (ldH d.p d.la 0).mrk)]), (.int .i64 (ldE d.p d.la 0))])) rfl ?_)
  refine za (zp (v := (.agg #[(.int .i64 (ldH d.p d.la 0).seq), (.int .i64 (ldH d.p d.la 0).ep), (.int .i64 (ldH d.p d.la 0).cut), (.int .i64 (ldH d.p d.la 0).st), (.int .i64 (ldH d.p d.la 0).mrk)])) rfl rfl ?_)
  refine za (zp (v := (.int .i64 (ldE d.p d.la 0))) rfl rfl ?_)
  refine za (zU (cs := #[(.int .i64 0), (.int .i64 0), (.int .i64 0), (.int .i64 0), (.int .i64 0)]) zR rfl hH12 fun b14 w15 hH16 => ?_)
  refine zB (zw (vs := [(.int .i64 (ldH d.p d.la 0).seq), (.int .i64 (ldH d.p d.la 0).ep), (.int .i64 (ldH d.p d.la 0).cut), (.int .i64 (ldH d.p d.la 0).st), (.int .i64 (ldH d.p d.la 0).mrk)]) (c' := #[(.int .i64 (ldH d.p d.la 0).seq), (.int .i64 (ldH d.p d.la 0).ep), (.int .i64 (ldH d.p d.la 0).cut), (.int .i64 (ldH d.p d.la 0).st), (.int .i64 (ldH d.p d.la 0).mrk)]) zR rfl rfl rfl rfl (by intro u hu; simp only [List.mem_cons, List.not_mem_nil, or_false] at hu; rcases hu with rfl | rfl | rfl | rfl | rfl <;> first | rfl) (by simp) (by kernel_rfl) (hH16.front 0 rfl) fun w17 hH18 => ?_)
  refine za (ze (v := (.int .i64 (ldE d.p d.la 0))) rfl ?_)
  refine zf ?_
  refine zc (hK10 _ _ ?_)
  refine wp_seq_k fun K19 hK19 => ?_
  refine wp_seq_k fun K20 hK20 => ?_
  refine zb ?_
  refine za (zd (v := (.int .i64 (ldE d.p d.la 0))) rfl ?_)
  refine za (o_neq (a := ldE d.p d.la 0) (b := 0) rfl rfl ?_)
  refine zf ?_
  refine zc (hK20 _ _ ?_)
  refine zt rfl (fun h21 => ?_) (fun h21 => ?_)
  ·
   refine wp_seq_k fun K22 hK22 => ?_
   refine zb ?_
   refine za (zd (v := (.int .i64 (ldE d.p d.la 0))) rfl ?_)
   refine za (ze (v := (.pointer none)) rfl ?_)
   refine za (ze (v := (.int .i64 (ldE d.p d.la 0))) rfl ?_)
   refine zf ?_
   refine zc (hK22 _ _ ?_)
   refine wp_ret ?_
   refine zv (zV Tryz.results16  (v := (.pointer none)) rfl (x := (.int .i64 (ldE d.p d.la 0))) rfl ?_)
   have hH23 : Has E w17 [sg, [Hp.one pb (.cells #[(.bool d.p.off), (.bool d.p.armed), (.int .i64 d.p.left), (.int .i64 d.p.uses)] 145 (0, 0))], R] := (((hH18.front 4 rfl).front 3 rfl).front 3 rfl).first 3 rfl
   have ho_ : opE d (((d.la.length : Nat) : Int) - 2) = ldE d.p d.la 0 := opE_ld h21
   exact .inr ⟨by rw [ho_]; exact h21, by rw [ho_], hH23⟩
  ·
   refine wp_skip ?_
   refine zc (hK19 _ _ ?_)
   refine wp_seq_k fun K24 hK24 => ?_
   refine Rest.region mixed (by kernel_rfl) ?_
   have hH25 : Has E { w17 with drawn := w17.drawn + 1 } [[Hp.one b14 (.cells #[(.int .i64 (ldH d.p d.la 0).seq), (.int .i64 (ldH d.p d.la 0).ep), (.int .i64 (ldH d.p d.la 0).cut), (.int .i64 (ldH d.p d.la 0).st), (.int .i64 (ldH d.p d.la 0).mrk)] 23 (0, 0))], sg, [Hp.one pb (.cells #[(.bool d.p.off), (.bool d.p.armed), (.int .i64 d.p.left), (.int .i64 d.p.uses)] 145 (0, 0))], [Hp.one ab3 (.cells #[(.pointer (some ⟨db, 0, none⟩)), (.int .i64 2), (.int .i64 (((d.la.length : Nat) : Int) - 2))] 265 (0, 0))], R] := Has0.drew hH18 _
   refine Rest.phaseA (fun w_ => Has E w_ [[Hp.one b14 (.cells #[(.int .i64 (ldH d.p d.la 0).seq), (.int .i64 (ldH d.p d.la 0).ep), (.int .i64 (ldH d.p d.la 0).cut), (.int .i64 (ldH d.p d.la 0).st), (.int .i64 (ldH d.p d.la 0).mrk)] 23 (0, 0))]]) 0 5 5 rfl (by decide) (by kernel_rfl) ?_
   refine zr 0 rfl (by kernel_rfl) (fun w_ h_ => zd (v := (.pointer (some ⟨ab3, 0, none⟩))) rfl ⟨rfl, rfl⟩) ?_
   refine zr 1 rfl (by kernel_rfl) (fun w_ h_ => zg (k := 3) (fun _ => by kernel_rfl) rfl ⟨rfl, rfl⟩) ?_
   refine zr 2 rfl (by kernel_rfl) (fun w_ h_ => zj (v := (.int .i64 (ldH d.p d.la 0).st)) Tryz.underlying3 rfl rfl h_ (zh 0 rfl) (CellsAt.one rfl) ⟨rfl, rfl⟩) ?_
   refine zr 3 rfl (by kernel_rfl) (fun w_ h_ => zd (v := (.pointer (some ⟨ab3, 0, none⟩))) rfl ⟨rfl, rfl⟩) ?_
   have hH26 : Has E { w17 with drawn := w17.drawn + 1 } [[Hp.one b14 (.cells #[(.int .i64 (ldH d.p d.la 0).seq), (.int .i64 (ldH d.p d.la 0).ep), (.int .i64 (ldH d.p d.la 0).cut), (.int .i64 (ldH d.p d.la 0).st), (.int .i64 (ldH d.p d.la 0).mrk)] 23 (0, 0))]] := hH25.first 1 rfl
   refine a_w 4 rfl (by kernel_rfl) hH26 (zk (vs := #[(.pointer (some ⟨ab3, 0, none⟩))]) ca99 rfl (zF rfl) (alen_c (hH25.front 3 rfl).all1 ⟨by omega, by omega⟩) ?_)
   rintro _ w29 ⟨rfl, hX27⟩
   refine ⟨_, rfl, ?_⟩
   have hH28 : Has E w29 [[Hp.one ab3 (.cells #[(.pointer (some ⟨db, 0, none⟩)), (.int .i64 2), (.int .i64 (((d.la.length : Nat) : Int) - 2))] 265 (0, 0))], [Hp.one b14 (.cells #[(.int .i64 (ldH d.p d.la 0).seq), (.int .i64 (ldH d.p d.la 0).ep), (.int .i64 (ldH d.p d.la 0).cut), (.int .i64 (ldH d.p d.la 0).st), (.int .i64 (ldH d.p d.la 0).mrk)] 23 (0, 0))], sg, [Hp.one pb (.cells #[(.bool d.p.off), (.bool d.p.armed), (.int .i64 d.p.left), (.int .i64 d.p.uses)] 145 (0, 0))], R] := hX27.of_all1
   have hH30 : Has E w29 [[Hp.one b14 (.cells #[(.int .i64 (ldH d.p d.la 0).seq), (.int .i64 (ldH d.p d.la 0).ep), (.int .i64 (ldH d.p d.la 0).cut), (.int .i64 (ldH d.p d.la 0).st), (.int .i64 (ldH d.p d.la 0).mrk)] 23 (0, 0))]] := (hH28.front 1 rfl).first 1 rfl
   refine zQ (by kernel_rfl) hH30 ?_
   obtain ⟨hR1_, hR2_, hR3_, hR4_, hR5_⟩ := of_decide_eq_true (ld_R (Classical.not_not.1 h21))
   have hbl_ : (ringB d (((d.la.length : Nat) : Int) - 2) (ldH d.p d.la 0).st).length = ((((d.la.length : Nat) : Int) - 2) * 64).toNat := ringB_len h64 hlk (by omega) (by omega)
   refine zP 5 rfl (by kernel_rfl) (zk (vs := #[(.pointer (some ⟨ab3, 0, none⟩)), (.int .i64 (ldH d.p d.la 0).st), (.int .i64 ((((d.la.length : Nat) : Int) - 2) * 64))]) ca98 rfl (args3 rfl rfl rfl) (dget_c (d := d) (fr := 2) (n := ((d.la.length : Nat) : Int) - 2) ((hH28.front 3 rfl).front 3 rfl).all3 hd h4 h64 hlk (by omega) (by omega) (by omega) hon (at_ := (ldH d.p d.la 0).st) ⟨by omega, by omega⟩ (size := (((d.la.length : Nat) : Int) - 2) * 64) ⟨by omega, by omega⟩) ?_)
   rintro _ w33 ⟨rfl, hX31⟩
   refine ⟨_, rfl, ?_⟩
   have hH32 : Has E w33 [sg, [Hp.one pb (.cells #[(.bool d.p.off), (.bool d.p.armed), (.int .i64 d.p.left), (.int .i64 d.p.uses)] 145 (0, 0))], [Hp.one ab3 (.cells #[(.pointer (some ⟨db, 0, none⟩)), (.int .i64 2), (.int .i64 (((d.la.length : Nat) : Int) - 2))] 265 (0, 0))], [Hp.one b14 (.cells #[(.int .i64 (ldH d.p d.la 0).seq), (.int .i64 (ldH d.p d.la 0).ep), (.int .i64 (ldH d.p d.la 0).cut), (.int .i64 (ldH d.p d.la 0).st), (.int .i64 (ldH d.p d.la 0).mrk)] 23 (0, 0))], R] := hX31.of_all3
   refine zP 6 rfl (by kernel_rfl) (zd (v := (.tuple #[(S (ringB d (((d.la.length : Nat) : Int) - 2) (ldH d.p d.la 0).st)), (.int .i64 (0 : Int))])) rfl ?_)
   refine Rest.phaseA (fun w_ => Has E w_ []) 7 10 3 rfl (by decide) (by kernel_rfl) ?_
   refine zr 7 rfl (by kernel_rfl) (fun w_ h_ => zp (v := (S (ringB d (((d.la.length : Nat) : Int) - 2) (ldH d.p d.la 0).st))) rfl rfl ⟨rfl, rfl⟩) ?_
   refine zr 8 rfl (by kernel_rfl) (fun w_ h_ => zp (v := (.int .i64 (0 : Int))) rfl rfl ⟨rfl, rfl⟩) ?_
   refine zr 9 rfl (by kernel_rfl) (fun w_ h_ => ze (v := (S (ringB d (((d.la.length : Nat) : Int) - 2) (ldH d.p d.la 0).st))) rfl ⟨rfl, rfl⟩) ?_
   have hH34 : Has E w33 [] := hH32.first 0 rfl
   refine zQ (by kernel_rfl) hH34 ?_
   refine zP 10 rfl (by kernel_rfl) (ze (v := (.int .i64 (0 : Int))) rfl ?_)
   refine Rest.done (by kernel_rfl) ?_
   refine zc (hK24 _ _ ?_)
   refine wp_seq_k fun K35 hK35 => ?_
   refine wp_seq_k fun K36 hK36 => ?_
   refine zb ?_
   refine za (zd (v := (.int .i64 (0 : Int))) rfl ?_)
   refine za (o_neq (a := (0 : Int)) (b := 0) rfl rfl ?_)
   refine zf ?_
   refine zc (hK36 _ _ ?_)
   refine zS rfl (decide_eq_false h9) ?_
   refine wp_skip ?_
   refine zc (hK35 _ _ ?_)
   refine wp_seq_k fun K37 hK37 => ?_
   refine zb ?_
   refine za (zg (k := 1) (fun _ => by kernel_rfl) rfl ?_)
   refine za (zj (v := (.int .i64 (ldH d.p d.la 0).ep)) Tryz.underlying3 rfl rfl hH32 (zh 3 rfl) (CellsAt.one rfl) ?_)
   refine za (zg (k := 2) (fun _ => by kernel_rfl) rfl ?_)
   refine za (zj (v := (.int .i64 (ldH d.p d.la 0).cut)) Tryz.underlying3 rfl rfl hH32 (zh 3 rfl) (CellsAt.one rfl) ?_)
   refine za (zK (v := (.agg #[(.int .i64 (ldH d.p d.la 0).ep), (.int .i64 (ldH d.p d.la 0).cut)])) (fun _ => by kernel_rfl) ?_)
   refine za (zd (v := (S (ringB d (((d.la.length : Nat) : Int) - 2) (ldH d.p d.la 0).st))) rfl ?_)
   refine za (zg (k := 3) (fun _ => by kernel_rfl) rfl ?_)
   refine za (zj (v := (.int .i64 (ldH d.p d.la 0).st)) Tryz.underlying3 rfl rfl hH32 (zh 3 rfl) (CellsAt.one rfl) ?_)
   refine za (zk (vs := #[(.agg #[(.int .i64 (ldH d.p d.la 0).ep), (.int .i64 (ldH d.p d.la 0).cut)]), (S (ringB d (((d.la.length : Nat) : Int) - 2) (ldH d.p d.la 0).st)), (.int .i64 (ldH d.p d.la 0).st), (.int .i64 (-1))]) ca100 rfl (args4 rfl rfl rfl rfl) (chain_c hH32.all (hg.mono (zh 4 rfl)) (ringB d (((d.la.length : Nat) : Int) - 2) (ldH d.p d.la 0).st) (by omega) ((ldH d.p d.la 0).ep) ((ldH d.p d.la 0).cut) ((ldH d.p d.la 0).st) (-1) (by omega)) ?_)
   rintro _ w43 ⟨v38, s39, rfl, ho40, hX41⟩
   refine ⟨_, rfl, ?_⟩
   have hH42 : Has E w43 [s39, sg, [Hp.one pb (.cells #[(.bool d.p.off), (.bool d.p.armed), (.int .i64 d.p.left), (.int .i64 d.p.uses)] 145 (0, 0))], [Hp.one ab3 (.cells #[(.pointer (some ⟨db, 0, none⟩)), (.int .i64 2), (.int .i64 (((d.la.length : Nat) : Int) - 2))] 265 (0, 0))], [Hp.one b14 (.cells #[(.int .i64 (ldH d.p d.la 0).seq), (.int .i64 (ldH d.p d.la 0).ep), (.int .i64 (ldH d.p d.la 0).cut), (.int .i64 (ldH d.p d.la 0).st), (.int .i64 (ldH d.p d.la 0).mrk)] 23 (0, 0))], R] := hX41.of_all1
   refine za (zd (v := (.tuple #[v38, (.int .i64 ((chainS ((ldH d.p d.la 0).ep) ((ldH d.p d.la 0).cut) ((ringB d (((d.la.length : Nat) : Int) - 2) (ldH d.p d.la 0).st).length + 1) (ringB d (((d.la.length : Nat) : Int) - 2) (ldH d.p d.la 0).st) ((ldH d.p d.la 0).st) (-1)).2))])) rfl ?_)
   refine za (zp (v := v38) rfl rfl ?_)
   refine za (zp (v := (.int .i64 ((chainS ((ldH d.p d.la 0).ep) ((ldH d.p d.la 0).cut) ((ringB d (((d.la.length : Nat) : Int) - 2) (ldH d.p d.la 0).st).length + 1) (ringB d (((d.la.length : Nat) : Int) - 2) (ldH d.p d.la 0).st) ((ldH d.p d.la 0).st) (-1)).2))) rfl rfl ?_)
   refine za (ze (v := v38) rfl ?_)
   refine za (ze (v := (.int .i64 ((chainS ((ldH d.p d.la 0).ep) ((ldH d.p d.la 0).cut) ((ringB d (((d.la.length : Nat) : Int) - 2) (ldH d.p d.la 0).st).length + 1) (ringB d (((d.la.length : Nat) : Int) - 2) (ldH d.p d.la 0).st) ((ldH d.p d.la 0).st) (-1)).2))) rfl ?_)
   refine zf ?_
   refine zc (hK37 _ _ ?_)
   refine wp_seq_k fun K44 hK44 => ?_
   refine wp_seq_k fun K45 hK45 => ?_
   refine zb ?_
   refine za (zg (k := 1) (fun _ => by kernel_rfl) rfl ?_)
   refine za (zj (v := (.int .i64 (ldH d.p d.la 0).ep)) Tryz.underlying3 rfl rfl hH42 (zh 4 rfl) (CellsAt.one rfl) ?_)
   refine za (yd (a := (ldH d.p d.la 0).ep) (b := 0) rfl rfl ?_)
   refine za (zd (v := (.bool (decide ((ldH d.p d.la 0).ep = 0)))) rfl ?_)
   by_cases h46 : (ldH d.p d.la 0).ep = 0
   ·
    refine zi (b' := true) 56 rfl (cT h46) rfl ?_
    refine zi (b' := true) 56 rfl (cT h46) rfl ?_
    refine zi (b' := true) 56 rfl (cT h46) rfl ?_
    refine zi (b' := true) 56 rfl (cT h46) rfl ?_
    refine zi (b' := true) 56 rfl (cT h46) rfl ?_
    refine za (zo (u := (.bool true)) ((rfl : _ = _).trans (cT h46)) rfl ?_)
    refine za (zd (v := (.bool true)) rfl ?_)
    refine zi (b' := true) 63 rfl rfl rfl ?_
    refine zi (b' := true) 63 rfl rfl rfl ?_
    refine zi (b' := true) 63 rfl rfl rfl ?_
    refine zi (b' := true) 63 rfl rfl rfl ?_
    refine za (zo (u := (.bool true)) rfl rfl ?_)
    refine zf ?_
    refine zc (hK45 _ _ ?_)
    refine zN rfl rfl ?_
    refine wp_seq_k fun K47 hK47 => ?_
    refine zb ?_
    refine za (ze (v := (.pointer none)) rfl ?_)
    refine za (ze (v := (.int .i64 9)) rfl ?_)
    refine zf ?_
    refine zc (hK47 _ _ ?_)
    refine wp_ret ?_
    refine zv (zV Tryz.results16  (v := (.pointer none)) rfl (x := (.int .i64 9)) rfl ?_)
    have hH48 : Has E w43 [sg, [Hp.one pb (.cells #[(.bool d.p.off), (.bool d.p.armed), (.int .i64 d.p.left), (.int .i64 d.p.uses)] 145 (0, 0))], R] := (((hH42.front 5 rfl).front 3 rfl).front 3 rfl).first 3 rfl
    have ho_ : opE d (((d.la.length : Nat) : Int) - 2) = 9 := opE_bad (Classical.not_not.1 h21) (by first | exact .inl h46 | exact .inr (.inl h46) | exact .inr (.inr h46))
    exact .inr ⟨by rw [ho_]; decide, by rw [ho_], hH48⟩
   ·
    refine zn 56 rfl (cF h46) (zg (k := 3) (fun _ => by kernel_rfl) rfl ?_)
    refine zn 56 rfl (cF h46) (zj (v := (.int .i64 (ldH d.p d.la 0).st)) Tryz.underlying3 rfl rfl hH42 (zh 4 rfl) (CellsAt.one rfl) ?_)
    refine zn 56 rfl (cF h46) (zg (k := 2) (fun _ => by kernel_rfl) rfl ?_)
    refine zn 56 rfl (cF h46) (zj (v := (.int .i64 (ldH d.p d.la 0).cut)) Tryz.underlying3 rfl rfl hH42 (zh 4 rfl) (CellsAt.one rfl) ?_)
    refine zn 56 rfl (cF h46) (o_gtr (a := (ldH d.p d.la 0).st) (b := (ldH d.p d.la 0).cut) rfl rfl ?_)
    refine za (zm (u := (.bool (decide ((ldH d.p d.la 0).cut < (ldH d.p d.la 0).st)))) ((rfl : _ = _).trans (cF h46)) rfl ?_)
    refine za (zd (v := (.bool (decide ((ldH d.p d.la 0).cut < (ldH d.p d.la 0).st)))) rfl ?_)
    by_cases h49 : (ldH d.p d.la 0).cut < (ldH d.p d.la 0).st
    ·
     refine zi (b' := true) 63 rfl (cT h49) rfl ?_
     refine zi (b' := true) 63 rfl (cT h49) rfl ?_
     refine zi (b' := true) 63 rfl (cT h49) rfl ?_
     refine zi (b' := true) 63 rfl (cT h49) rfl ?_
     refine za (zo (u := (.bool true)) ((rfl : _ = _).trans (cT h49)) rfl ?_)
     refine zf ?_
     refine zc (hK45 _ _ ?_)
     refine zN rfl rfl ?_
     refine wp_seq_k fun K50 hK50 => ?_
     refine zb ?_
     refine za (ze (v := (.pointer none)) rfl ?_)
     refine za (ze (v := (.int .i64 9)) rfl ?_)
     refine zf ?_
     refine zc (hK50 _ _ ?_)
     refine wp_ret ?_
     refine zv (zV Tryz.results16  (v := (.pointer none)) rfl (x := (.int .i64 9)) rfl ?_)
     have hH51 : Has E w43 [sg, [Hp.one pb (.cells #[(.bool d.p.off), (.bool d.p.armed), (.int .i64 d.p.left), (.int .i64 d.p.uses)] 145 (0, 0))], R] := (((hH42.front 5 rfl).front 3 rfl).front 3 rfl).first 3 rfl
     have ho_ : opE d (((d.la.length : Nat) : Int) - 2) = 9 := opE_bad (Classical.not_not.1 h21) (by first | exact .inl h49 | exact .inr (.inl h49) | exact .inr (.inr h49))
     exact .inr ⟨by rw [ho_]; decide, by rw [ho_], hH51⟩
    ·
     refine zn 63 rfl (cF h49) (zd (v := (.int .i64 ((chainS ((ldH d.p d.la 0).ep) ((ldH d.p d.la 0).cut) ((ringB d (((d.la.length : Nat) : Int) - 2) (ldH d.p d.la 0).st).length + 1) (ringB d (((d.la.length : Nat) : Int) - 2) (ldH d.p d.la 0).st) ((ldH d.p d.la 0).st) (-1)).2))) rfl ?_)
     refine zn 63 rfl (cF h49) (zg (k := 2) (fun _ => by kernel_rfl) rfl ?_)
     refine zn 63 rfl (cF h49) (zj (v := (.int .i64 (ldH d.p d.la 0).cut)) Tryz.underlying3 rfl rfl hH42 (zh 4 rfl) (CellsAt.one rfl) ?_)
     refine zn 63 rfl (cF h49) (zL (a := (chainS ((ldH d.p d.la 0).ep) ((ldH d.p d.la 0).cut) ((ringB d (((d.la.length : Nat) : Int) - 2) (ldH d.p d.la 0).st).length + 1) (ringB d (((d.la.length : Nat) : Int) - 2) (ldH d.p d.la 0).st) ((ldH d.p d.la 0).st) (-1)).2) (b := (ldH d.p d.la 0).cut) rfl rfl ?_)
     refine za (zm (u := (.bool (decide ((chainS ((ldH d.p d.la 0).ep) ((ldH d.p d.la 0).cut) ((ringB d (((d.la.length : Nat) : Int) - 2) (ldH d.p d.la 0).st).length + 1) (ringB d (((d.la.length : Nat) : Int) - 2) (ldH d.p d.la 0).st) ((ldH d.p d.la 0).st) (-1)).2 < (ldH d.p d.la 0).cut)))) ((rfl : _ = _).trans (cF h49)) rfl ?_)
     refine zf ?_
     refine zc (hK45 _ _ ?_)
     refine zt rfl (fun h52 => ?_) (fun h52 => ?_)
     ·
      refine wp_seq_k fun K53 hK53 => ?_
      refine zb ?_
      refine za (ze (v := (.pointer none)) rfl ?_)
      refine za (ze (v := (.int .i64 9)) rfl ?_)
      refine zf ?_
      refine zc (hK53 _ _ ?_)
      refine wp_ret ?_
      refine zv (zV Tryz.results16  (v := (.pointer none)) rfl (x := (.int .i64 9)) rfl ?_)
      have hH54 : Has E w43 [sg, [Hp.one pb (.cells #[(.bool d.p.off), (.bool d.p.armed), (.int .i64 d.p.left), (.int .i64 d.p.uses)] 145 (0, 0))], R] := (((hH42.front 5 rfl).front 3 rfl).front 3 rfl).first 3 rfl
      have ho_ : opE d (((d.la.length : Nat) : Int) - 2) = 9 := opE_bad (Classical.not_not.1 h21) (by first | exact .inl h52 | exact .inr (.inl h52) | exact .inr (.inr h52))
      exact .inr ⟨by rw [ho_]; decide, by rw [ho_], hH54⟩
     ·
      refine wp_skip ?_
      refine zc (hK44 _ _ ?_)
      refine wp_seq_k fun K55 hK55 => ?_
      refine zb ?_
      refine za (zC (cs := [(.int .i64 (ldH d.p d.la 0).seq), (.int .i64 (ldH d.p d.la 0).ep), (.int .i64 (ldH d.p d.la 0).cut), (.int .i64 (ldH d.p d.la 0).st), (.int .i64 (ldH d.p d.la 0).mrk)]) Tryz.underlying23 rfl zR rfl hH42 (zh 4 rfl) (CellsAt.one rfl) ?_)
      refine za (zK (v := (.agg #[(.int .i64 (ldH d.p d.la 0).seq), (.int .i64 (ldH d.p d.la 0).ep), (.int .i64 (ldH d.p d.la 0).cut), (.int .i64 (ldH d.p d.la 0).st), (.int .i64 (ldH d.p d.la 0).mrk)])) (fun _ => by kernel_rfl) ?_)
      refine za (zd (v := (.pointer (some ⟨db, 0, none⟩))) rfl ?_)
      refine za (zd (v := (.pointer (some ⟨ab3, 0, none⟩))) rfl ?_)
      refine za (zd (v := (.int .i64 ((chainS ((ldH d.p d.la 0).ep) ((ldH d.p d.la 0).cut) ((ringB d (((d.la.length : Nat) : Int) - 2) (ldH d.p d.la 0).st).length + 1) (ringB d (((d.la.length : Nat) : Int) - 2) (ldH d.p d.la 0).st) ((ldH d.p d.la 0).st) (-1)).2))) rfl ?_)
      refine za (zd (v := v38) rfl ?_)
      refine za (zY Tryz.underlying167 rfl ho40.sl ?_)
      refine za (zK (v := (.agg #[(.int .i64 (ldH d.p d.la 0).seq), (.int .i64 (ldH d.p d.la 0).ep), (.int .i64 (ldH d.p d.la 0).cut), (.int .i64 (ldH d.p d.la 0).st), (.int .i64 (ldH d.p d.la 0).mrk), (.pointer (some ⟨db, 0, none⟩)), (.pointer (some ⟨ab3, 0, none⟩)), (.slice none 0 0), (.int .i64 ((chainS ((ldH d.p d.la 0).ep) ((ldH d.p d.la 0).cut) ((ringB d (((d.la.length : Nat) : Int) - 2) (ldH d.p d.la 0).st).length + 1) (ringB d (((d.la.length : Nat) : Int) - 2) (ldH d.p d.la 0).st) ((ldH d.p d.la 0).st) (-1)).2)), (.int .i64 ((((chainS ((ldH d.p d.la 0).ep) ((ldH d.p d.la 0).cut) ((ringB d (((d.la.length : Nat) : Int) - 2) (ldH d.p d.la 0).st).length + 1) (ringB d (((d.la.length : Nat) : Int) - 2) (ldH d.p d.la 0).st) ((ldH d.p d.la 0).st) (-1)).1).length : Nat) : Int)), (.int .i64 0), (.bool false), (.int .i64 0)])) (fun _ => by kernel_rfl) ?_)
      refine za (o_box (cs := #[(.int .i64 (ldH d.p d.la 0).seq), (.int .i64 (ldH d.p d.la 0).ep), (.int .i64 (ldH d.p d.la 0).cut), (.int .i64 (ldH d.p d.la 0).st), (.int .i64 (ldH d.p d.la 0).mrk), (.pointer (some ⟨db, 0, none⟩)), (.pointer (some ⟨ab3, 0, none⟩)), (.slice none 0 0), (.int .i64 ((chainS ((ldH d.p d.la 0).ep) ((ldH d.p d.la 0).cut) ((ringB d (((d.la.length : Nat) : Int) - 2) (ldH d.p d.la 0).st).length + 1) (ringB d (((d.la.length : Nat) : Int) - 2) (ldH d.p d.la 0).st) ((ldH d.p d.la 0).st) (-1)).2)), (.int .i64 ((((chainS ((ldH d.p d.la 0).ep) ((ldH d.p d.la 0).cut) ((ringB d (((d.la.length : Nat) : Int) - 2) (ldH d.p d.la 0).st).length + 1) (ringB d (((d.la.length : Nat) : Int) - 2) (ldH d.p d.la 0).st) ((ldH d.p d.la 0).st) (-1)).1).length : Nat) : Int)), (.int .i64 0), (.bool false), (.int .i64 0)]) rfl rfl hH42 fun b56 w57 hH58 => ?_)
      refine za (ze (v := (.pointer (some ⟨b56, 0, none⟩))) rfl ?_)
      refine zf ?_
      refine zc (hK55 _ _ ?_)
      refine wp_seq_k fun K59 hK59 => ?_
      refine wp_seq_k fun K60 hK60 => ?_
      refine zb ?_
      refine za (zd (v := v38) rfl ?_)
      refine za (zY Tryz.underlying167 rfl ho40.sl ?_)
      refine za (zd (v := (.int .i64 0)) rfl ?_)
      refine zf ?_
      refine zc (hK60 _ _ ?_)
      refine wp_block ?_
      have hcc_ := chain_count (ldH d.p d.la 0).ep (ldH d.p d.la 0).cut ((ringB d (((d.la.length : Nat) : Int) - 2) (ldH d.p d.la 0).st).length + 1) (ringB d (((d.la.length : Nat) : Int) - 2) (ldH d.p d.la 0).st) (ldH d.p d.la 0).st (-1)
      have hF_ : (chainS ((ldH d.p d.la 0).ep) ((ldH d.p d.la 0).cut) ((ringB d (((d.la.length : Nat) : Int) - 2) (ldH d.p d.la 0).st).length + 1) (ringB d (((d.la.length : Nat) : Int) - 2) (ldH d.p d.la 0).st) ((ldH d.p d.la 0).st) (-1)).1.length = ((opC d (((d.la.length : Nat) : Int) - 2)).1).length := rfl
      let I62 : Nat → (Nat → Value) → World → Prop := fun n__ r__ w__ => ∃ (j : Nat) (va : Value) (ha : List Hp) (acc : List LEnt), n__ = ((chainS ((ldH d.p d.la 0).ep) ((ldH d.p d.la 0).cut) ((ringB d (((d.la.length : Nat) : Int) - 2) (ldH d.p d.la 0).st).length + 1) (ringB d (((d.la.length : Nat) : Int) - 2) (ldH d.p d.la 0).st) ((ldH d.p d.la 0).st) (-1)).1).length - j ∧ Has E w__ [ha, [Hp.one b56 (.cells #[(.int .i64 (ldH d.p d.la 0).seq), (.int .i64 (ldH d.p d.la 0).ep), (.int .i64 (ldH d.p d.la 0).cut), (.int .i64 (ldH d.p d.la 0).st), (.int .i64 (ldH d.p d.la 0).mrk), (.pointer (some ⟨db, 0, none⟩)), (.pointer (some ⟨ab3, 0, none⟩)), va, (.int .i64 ((chainS ((ldH d.p d.la 0).ep) ((ldH d.p d.la 0).cut) ((ringB d (((d.la.length : Nat) : Int) - 2) (ldH d.p d.la 0).st).length + 1) (ringB d (((d.la.length : Nat) : Int) - 2) (ldH d.p d.la 0).st) ((ldH d.p d.la 0).st) (-1)).2)), (.int .i64 ((((chainS ((ldH d.p d.la 0).ep) ((ldH d.p d.la 0).cut) ((ringB d (((d.la.length : Nat) : Int) - 2) (ldH d.p d.la 0).st).length + 1) (ringB d (((d.la.length : Nat) : Int) - 2) (ldH d.p d.la 0).st) ((ldH d.p d.la 0).st) (-1)).1).length : Nat) : Int)), (.int .i64 0), (.bool false), (.int .i64 0)] 175 (0, 0))], s39, sg, [Hp.one pb (.cells #[(.bool d.p.off), (.bool d.p.armed), (.int .i64 d.p.left), (.int .i64 d.p.uses)] 145 (0, 0))], [Hp.one ab3 (.cells #[(.pointer (some ⟨db, 0, none⟩)), (.int .i64 2), (.int .i64 (((d.la.length : Nat) : Int) - 2))] 265 (0, 0))], [Hp.one b14 (.cells #[(.int .i64 (ldH d.p d.la 0).seq), (.int .i64 (ldH d.p d.la 0).ep), (.int .i64 (ldH d.p d.la 0).cut), (.int .i64 (ldH d.p d.la 0).st), (.int .i64 (ldH d.p d.la 0).mrk)] 23 (0, 0))], R] ∧ (j ≤ ((chainS ((ldH d.p d.la 0).ep) ((ldH d.p d.la 0).cut) ((ringB d (((d.la.length : Nat) : Int) - 2) (ldH d.p d.la 0).st).length + 1) (ringB d (((d.la.length : Nat) : Int) - 2) (ldH d.p d.la 0).st) ((ldH d.p d.la 0).st) (-1)).1).length) ∧ (Own 42 3 va acc.length (acc.flatMap enC) ha) ∧ (acc = (((chainS ((ldH d.p d.la 0).ep) ((ldH d.p d.la 0).cut) ((ringB d (((d.la.length : Nat) : Int) - 2) (ldH d.p d.la 0).st).length + 1) (ringB d (((d.la.length : Nat) : Int) - 2) (ldH d.p d.la 0).st) ((ldH d.p d.la 0).st) (-1)).1).take j).map entF) ∧ (acc.length ≤ j) ∧ r__ 0 = (.pointer (some ⟨db, 0, none⟩)) ∧ r__ 2 = (.pointer none) ∧ r__ 3 = (.int .i64 0) ∧ r__ 4 = (.pointer (some ⟨ab3, 0, none⟩)) ∧ r__ 5 = (.int .i64 (0 : Int)) ∧ r__ 6 = (.pointer (some ⟨b14, 0, none⟩)) ∧ r__ 7 = (S (ringB d (((d.la.length : Nat) : Int) - 2) (ldH d.p d.la 0).st)) ∧ r__ 8 = v38 ∧ r__ 9 = (.int .i64 ((chainS ((ldH d.p d.la 0).ep) ((ldH d.p d.la 0).cut) ((ringB d (((d.la.length : Nat) : Int) - 2) (ldH d.p d.la 0).st).length + 1) (ringB d (((d.la.length : Nat) : Int) - 2) (ldH d.p d.la 0).st) ((ldH d.p d.la 0).st) (-1)).2)) ∧ r__ 10 = (.pointer (some ⟨b56, 0, none⟩)) ∧ r__ 19 = (.bool (decide ((0 : Int) ≠ 0))) ∧ r__ 27 = (.bool (decide (ldE d.p d.la 0 ≠ 0))) ∧ r__ 39 = (.bool (decide ((0 : Int) ≠ 0))) ∧ r__ 68 = (.bool (decide ((chainS ((ldH d.p d.la 0).ep) ((ldH d.p d.la 0).cut) ((ringB d (((d.la.length : Nat) : Int) - 2) (ldH d.p d.la 0).st).length + 1) (ringB d (((d.la.length : Nat) : Int) - 2) (ldH d.p d.la 0).st) ((ldH d.p d.la 0).st) (-1)).2 < (ldH d.p d.la 0).cut))) ∧ r__ 78 = v38 ∧ r__ 79 = (.int .i64 ((((chainS ((ldH d.p d.la 0).ep) ((ldH d.p d.la 0).cut) ((ringB d (((d.la.length : Nat) : Int) - 2) (ldH d.p d.la 0).st).length + 1) (ringB d (((d.la.length : Nat) : Int) - 2) (ldH d.p d.la 0).st) ((ldH d.p d.la 0).st) (-1)).1).length : Nat) : Int)) ∧ r__ 80 = (.int .i64 (j : Int))
      have hH63 : Has E w57 [[], [Hp.one b56 (.cells #[(.int .i64 (ldH d.p d.la 0).seq), (.int .i64 (ldH d.p d.la 0).ep), (.int .i64 (ldH d.p d.la 0).cut), (.int .i64 (ldH d.p d.la 0).st), (.int .i64 (ldH d.p d.la 0).mrk), (.pointer (some ⟨db, 0, none⟩)), (.pointer (some ⟨ab3, 0, none⟩)), (.slice none 0 0), (.int .i64 ((chainS ((ldH d.p d.la 0).ep) ((ldH d.p d.la 0).cut) ((ringB d (((d.la.length : Nat) : Int) - 2) (ldH d.p d.la 0).st).length + 1) (ringB d (((d.la.length : Nat) : Int) - 2) (ldH d.p d.la 0).st) ((ldH d.p d.la 0).st) (-1)).2)), (.int .i64 ((((chainS ((ldH d.p d.la 0).ep) ((ldH d.p d.la 0).cut) ((ringB d (((d.la.length : Nat) : Int) - 2) (ldH d.p d.la 0).st).length + 1) (ringB d (((d.la.length : Nat) : Int) - 2) (ldH d.p d.la 0).st) ((ldH d.p d.la 0).st) (-1)).1).length : Nat) : Int)), (.int .i64 0), (.bool false), (.int .i64 0)] 175 (0, 0))], s39, sg, [Hp.one pb (.cells #[(.bool d.p.off), (.bool d.p.armed), (.int .i64 d.p.left), (.int .i64 d.p.uses)] 145 (0, 0))], [Hp.one ab3 (.cells #[(.pointer (some ⟨db, 0, none⟩)), (.int .i64 2), (.int .i64 (((d.la.length : Nat) : Int) - 2))] 265 (0, 0))], [Hp.one b14 (.cells #[(.int .i64 (ldH d.p d.la 0).seq), (.int .i64 (ldH d.p d.la 0).ep), (.int .i64 (ldH d.p d.la 0).cut), (.int .i64 (ldH d.p d.la 0).st), (.int .i64 (ldH d.p d.la 0).mrk)] 23 (0, 0))], R] := Has.pick (Has.nil hH58) [0, 0, 0, 0, 0, 0, 0, 0] (by kernel_rfl)
      refine zT I62 _ ⟨0, (.slice none 0 0), [], ([] : List LEnt), rfl, hH63, Nat.zero_le _, Own.nil 42 3, rfl, (by simp), rfl, rfl, rfl, rfl, rfl, rfl, rfl, rfl, rfl, rfl, rfl, rfl, rfl, rfl, rfl, rfl, rfl⟩ ?_
      rintro n_ r67 w65 ⟨j, va, ha, acc, rfl, hH66, hj, hoa, hac, hal, e61_0, e61_2, e61_3, e61_4, e61_5, e61_6, e61_7, e61_8, e61_9, e61_10, e61_19, e61_27, e61_39, e61_68, e61_78, e61_79, e61_80⟩
      refine wp_seq_k fun K68 hK68 => ?_
      refine zb ?_
      refine za (zL (a := (j : Int)) (b := ((((chainS ((ldH d.p d.la 0).ep) ((ldH d.p d.la 0).cut) ((ringB d (((d.la.length : Nat) : Int) - 2) (ldH d.p d.la 0).st).length + 1) (ringB d (((d.la.length : Nat) : Int) - 2) (ldH d.p d.la 0).st) ((ldH d.p d.la 0).st) (-1)).1).length : Nat) : Int)) e61_80 e61_79 ?_)
      refine zf ?_
      refine zc (hK68 _ _ ?_)
      refine wp_seq_k fun K69 hK69 => ?_
      refine zt rfl (fun h70 => ?_) (fun h70 => ?_)
      ·
       refine wp_skip ?_
       refine zc (hK69 _ _ ?_)
       refine wp_seq_k fun K71 hK71 => ?_
       refine wp_block ?_
       refine wp_seq_k fun K72 hK72 => ?_
       refine zb ?_
       obtain ⟨x76, hx77⟩ : ∃ x_, ((chainS ((ldH d.p d.la 0).ep) ((ldH d.p d.la 0).cut) ((ringB d (((d.la.length : Nat) : Int) - 2) (ldH d.p d.la 0).st).length + 1) (ringB d (((d.la.length : Nat) : Int) - 2) (ldH d.p d.la 0).st) ((ldH d.p d.la 0).st) (-1)).1)[((j : Int)).toNat]? = some x_ := zM (by omega)
       refine za (o_indexF frC_len Tryz.underlying167 ti176 e61_78 ho40.sl rfl e61_80 (by omega) hx77 fun b73 o74 hc75 => ?_)
       refine za (zC (cs := [(.int .i64 x76.ep), (.int .i64 x76.pl), (.int .i64 x76.gsn), (S x76.data)]) Tryz.underlying176 rfl ti176 rfl hH66 (zh 2 rfl) hc75 ?_)
       refine za (zU (cs := #[(.int .i64 0), (.int .i64 0), (.int .i64 0), (S ([] : List UInt8))]) ti176 rfl hH66 fun b78 w79 hH80 => ?_)
       refine zB (zw (vs := [(.int .i64 x76.ep), (.int .i64 x76.pl), (.int .i64 x76.gsn), (S x76.data)]) (c' := #[(.int .i64 x76.ep), (.int .i64 x76.pl), (.int .i64 x76.gsn), (S x76.data)]) ti176 rfl rfl rfl rfl (by intro u hu; simp only [List.mem_cons, List.not_mem_nil, or_false] at hu; rcases hu with rfl | rfl | rfl | rfl <;> first | rfl) (by simp) (by kernel_rfl) (hH80.front 0 rfl) fun w81 hH82 => ?_)
       refine zf ?_
       refine zc (hK72 _ _ ?_)
       refine Rest.region mixed (by kernel_rfl) ?_
       have hH83 : Has E { w81 with drawn := w81.drawn + 1 } [[Hp.one b78 (.cells #[(.int .i64 x76.ep), (.int .i64 x76.pl), (.int .i64 x76.gsn), (S x76.data)] 176 (0, 0))], ha, [Hp.one b56 (.cells #[(.int .i64 (ldH d.p d.la 0).seq), (.int .i64 (ldH d.p d.la 0).ep), (.int .i64 (ldH d.p d.la 0).cut), (.int .i64 (ldH d.p d.la 0).st), (.int .i64 (ldH d.p d.la 0).mrk), (.pointer (some ⟨db, 0, none⟩)), (.pointer (some ⟨ab3, 0, none⟩)), va, (.int .i64 ((chainS ((ldH d.p d.la 0).ep) ((ldH d.p d.la 0).cut) ((ringB d (((d.la.length : Nat) : Int) - 2) (ldH d.p d.la 0).st).length + 1) (ringB d (((d.la.length : Nat) : Int) - 2) (ldH d.p d.la 0).st) ((ldH d.p d.la 0).st) (-1)).2)), (.int .i64 ((((chainS ((ldH d.p d.la 0).ep) ((ldH d.p d.la 0).cut) ((ringB d (((d.la.length : Nat) : Int) - 2) (ldH d.p d.la 0).st).length + 1) (ringB d (((d.la.length : Nat) : Int) - 2) (ldH d.p d.la 0).st) ((ldH d.p d.la 0).st) (-1)).1).length : Nat) : Int)), (.int .i64 0), (.bool false), (.int .i64 0)] 175 (0, 0))], s39, sg, [Hp.one pb (.cells #[(.bool d.p.off), (.bool d.p.armed), (.int .i64 d.p.left), (.int .i64 d.p.uses)] 145 (0, 0))], [Hp.one ab3 (.cells #[(.pointer (some ⟨db, 0, none⟩)), (.int .i64 2), (.int .i64 (((d.la.length : Nat) : Int) - 2))] 265 (0, 0))], [Hp.one b14 (.cells #[(.int .i64 (ldH d.p d.la 0).seq), (.int .i64 (ldH d.p d.la 0).ep), (.int .i64 (ldH d.p d.la 0).cut), (.int .i64 (ldH d.p d.la 0).st), (.int .i64 (ldH d.p d.la 0).mrk)] 23 (0, 0))], R] := Has0.drew hH82 _
       refine Rest.phaseA (fun w_ => Has E w_ [[Hp.one b78 (.cells #[(.int .i64 x76.ep), (.int .i64 x76.pl), (.int .i64 x76.gsn), (S x76.data)] 176 (0, 0))], [Hp.one b56 (.cells #[(.int .i64 (ldH d.p d.la 0).seq), (.int .i64 (ldH d.p d.la 0).ep), (.int .i64 (ldH d.p d.la 0).cut), (.int .i64 (ldH d.p d.la 0).st), (.int .i64 (ldH d.p d.la 0).mrk), (.pointer (some ⟨db, 0, none⟩)), (.pointer (some ⟨ab3, 0, none⟩)), va, (.int .i64 ((chainS ((ldH d.p d.la 0).ep) ((ldH d.p d.la 0).cut) ((ringB d (((d.la.length : Nat) : Int) - 2) (ldH d.p d.la 0).st).length + 1) (ringB d (((d.la.length : Nat) : Int) - 2) (ldH d.p d.la 0).st) ((ldH d.p d.la 0).st) (-1)).2)), (.int .i64 ((((chainS ((ldH d.p d.la 0).ep) ((ldH d.p d.la 0).cut) ((ringB d (((d.la.length : Nat) : Int) - 2) (ldH d.p d.la 0).st).length + 1) (ringB d (((d.la.length : Nat) : Int) - 2) (ldH d.p d.la 0).st) ((ldH d.p d.la 0).st) (-1)).1).length : Nat) : Int)), (.int .i64 0), (.bool false), (.int .i64 0)] 175 (0, 0))]]) 0 14 14 rfl (by decide) (by kernel_rfl) ?_
       refine zr 0 rfl (by kernel_rfl) (fun w_ h_ => zd (v := (.pointer (some ⟨b56, 0, none⟩))) e61_10 ⟨rfl, rfl⟩) ?_
       refine zr 1 rfl (by kernel_rfl) (fun w_ h_ => zd (v := (.pointer (some ⟨b56, 0, none⟩))) e61_10 ⟨rfl, rfl⟩) ?_
       refine zr 2 rfl (by kernel_rfl) (fun w_ h_ => zl rfl ⟨rfl, rfl⟩) ?_
       refine zr 3 rfl (by kernel_rfl) (fun w_ h_ => zg (k := 7) (fun _ => by kernel_rfl) rfl ⟨rfl, rfl⟩) ?_
       refine zr 4 rfl (by kernel_rfl) (fun w_ h_ => zj (v := va) Tryz.underlying37 rfl rfl h_ (zh 1 rfl) (CellsAt.one rfl) ⟨rfl, rfl⟩) ?_
       refine zr 5 rfl (by kernel_rfl) (fun w_ h_ => zg (k := 2) (fun _ => by kernel_rfl) rfl ⟨rfl, rfl⟩) ?_
       refine zr 6 rfl (by kernel_rfl) (fun w_ h_ => zj (v := (.int .i64 x76.gsn)) Tryz.underlying3 rfl rfl h_ (zh 0 rfl) (CellsAt.one rfl) ⟨rfl, rfl⟩) ?_
       refine zr 7 rfl (by kernel_rfl) (fun w_ h_ => zg (k := 1) (fun _ => by kernel_rfl) rfl ⟨rfl, rfl⟩) ?_
       refine zr 8 rfl (by kernel_rfl) (fun w_ h_ => zj (v := (.int .i64 x76.pl)) Tryz.underlying3 rfl rfl h_ (zh 0 rfl) (CellsAt.one rfl) ⟨rfl, rfl⟩) ?_
       refine zr 9 rfl (by kernel_rfl) (fun w_ h_ => zg (k := 3) (fun _ => by kernel_rfl) rfl ⟨rfl, rfl⟩) ?_
       refine zr 10 rfl (by kernel_rfl) (fun w_ h_ => zj (v := (S x76.data)) Tryz.underlying9 rfl rfl h_ (zh 0 rfl) (CellsAt.one rfl) ⟨rfl, rfl⟩) ?_
       refine zr 11 rfl (by kernel_rfl) (fun w_ h_ => zK (v := (.agg #[(.int .i64 x76.gsn), (.int .i64 x76.pl), (S x76.data)])) (fun _ => by kernel_rfl) ⟨rfl, rfl⟩) ?_
       have hH84 : Has E { w81 with drawn := w81.drawn + 1 } [[Hp.one b78 (.cells #[(.int .i64 x76.ep), (.int .i64 x76.pl), (.int .i64 x76.gsn), (S x76.data)] 176 (0, 0))], [Hp.one b56 (.cells #[(.int .i64 (ldH d.p d.la 0).seq), (.int .i64 (ldH d.p d.la 0).ep), (.int .i64 (ldH d.p d.la 0).cut), (.int .i64 (ldH d.p d.la 0).st), (.int .i64 (ldH d.p d.la 0).mrk), (.pointer (some ⟨db, 0, none⟩)), (.pointer (some ⟨ab3, 0, none⟩)), va, (.int .i64 ((chainS ((ldH d.p d.la 0).ep) ((ldH d.p d.la 0).cut) ((ringB d (((d.la.length : Nat) : Int) - 2) (ldH d.p d.la 0).st).length + 1) (ringB d (((d.la.length : Nat) : Int) - 2) (ldH d.p d.la 0).st) ((ldH d.p d.la 0).st) (-1)).2)), (.int .i64 ((((chainS ((ldH d.p d.la 0).ep) ((ldH d.p d.la 0).cut) ((ringB d (((d.la.length : Nat) : Int) - 2) (ldH d.p d.la 0).st).length + 1) (ringB d (((d.la.length : Nat) : Int) - 2) (ldH d.p d.la 0).st) ((ldH d.p d.la 0).st) (-1)).1).length : Nat) : Int)), (.int .i64 0), (.bool false), (.int .i64 0)] 175 (0, 0))]] := ((hH83.front 2 rfl).front 1 rfl).first 2 rfl
       refine a_w 12 rfl (by kernel_rfl) hH84 (zu (ps := #[(0, (.agg #[(.int .i64 x76.gsn), (.int .i64 x76.pl), (S x76.data)]))]) (cells := #[(.int .i64 x76.gsn), (.int .i64 x76.pl), (S x76.data)]) Tryz.underlying37 ti42 (by decide) (parts1 rfl) (by kernel_rfl) hH83 fun b85 w86 hH87 => ?_)
       have hH88 : Has E w86 [[Hp.one b78 (.cells #[(.int .i64 x76.ep), (.int .i64 x76.pl), (.int .i64 x76.gsn), (S x76.data)] 176 (0, 0))], [Hp.one b56 (.cells #[(.int .i64 (ldH d.p d.la 0).seq), (.int .i64 (ldH d.p d.la 0).ep), (.int .i64 (ldH d.p d.la 0).cut), (.int .i64 (ldH d.p d.la 0).st), (.int .i64 (ldH d.p d.la 0).mrk), (.pointer (some ⟨db, 0, none⟩)), (.pointer (some ⟨ab3, 0, none⟩)), va, (.int .i64 ((chainS ((ldH d.p d.la 0).ep) ((ldH d.p d.la 0).cut) ((ringB d (((d.la.length : Nat) : Int) - 2) (ldH d.p d.la 0).st).length + 1) (ringB d (((d.la.length : Nat) : Int) - 2) (ldH d.p d.la 0).st) ((ldH d.p d.la 0).st) (-1)).2)), (.int .i64 ((((chainS ((ldH d.p d.la 0).ep) ((ldH d.p d.la 0).cut) ((ringB d (((d.la.length : Nat) : Int) - 2) (ldH d.p d.la 0).st).length + 1) (ringB d (((d.la.length : Nat) : Int) - 2) (ldH d.p d.la 0).st) ((ldH d.p d.la 0).st) (-1)).1).length : Nat) : Int)), (.int .i64 0), (.bool false), (.int .i64 0)] 175 (0, 0))]] := ((hH87.front 3 rfl).front 2 rfl).first 2 rfl
       refine a_w 13 rfl (by kernel_rfl) hH88 (o_append Tryz.underlying37 ti42 rfl (by decide) rfl hoa rfl (sl_litF (f := enC) (l := [(LEnt.mk x76.gsn x76.pl x76.data)]) enC_len rfl rfl (by simp)) (hH87.front 2 rfl) (zh 0 rfl) (one_enC _) (by simp only [List.length_cons, List.length_nil]; omega) (by simp only [List.length_cons, List.length_nil]; omega) fun v89 s90 w92 ho91 hH93 => ?_)
       have ho91 : Own 42 3 v89 (acc ++ [(LEnt.mk x76.gsn x76.pl x76.data)]).length ((acc ++ [(LEnt.mk x76.gsn x76.pl x76.data)]).flatMap enC) s90 := ho91.appF
       have hH94 : Has E w92 [[Hp.one b78 (.cells #[(.int .i64 x76.ep), (.int .i64 x76.pl), (.int .i64 x76.gsn), (S x76.data)] 176 (0, 0))], [Hp.one b56 (.cells #[(.int .i64 (ldH d.p d.la 0).seq), (.int .i64 (ldH d.p d.la 0).ep), (.int .i64 (ldH d.p d.la 0).cut), (.int .i64 (ldH d.p d.la 0).st), (.int .i64 (ldH d.p d.la 0).mrk), (.pointer (some ⟨db, 0, none⟩)), (.pointer (some ⟨ab3, 0, none⟩)), va, (.int .i64 ((chainS ((ldH d.p d.la 0).ep) ((ldH d.p d.la 0).cut) ((ringB d (((d.la.length : Nat) : Int) - 2) (ldH d.p d.la 0).st).length + 1) (ringB d (((d.la.length : Nat) : Int) - 2) (ldH d.p d.la 0).st) ((ldH d.p d.la 0).st) (-1)).2)), (.int .i64 ((((chainS ((ldH d.p d.la 0).ep) ((ldH d.p d.la 0).cut) ((ringB d (((d.la.length : Nat) : Int) - 2) (ldH d.p d.la 0).st).length + 1) (ringB d (((d.la.length : Nat) : Int) - 2) (ldH d.p d.la 0).st) ((ldH d.p d.la 0).st) (-1)).1).length : Nat) : Int)), (.int .i64 0), (.bool false), (.int .i64 0)] 175 (0, 0))]] := ((hH93.front 3 rfl).front 3 rfl).first 2 rfl
       refine zQ (by kernel_rfl) hH94 ?_
       refine zP 14 rfl (by kernel_rfl) (zl rfl ?_)
       refine zP 15 rfl (by kernel_rfl) (zg (k := 7) (fun _ => by kernel_rfl) rfl ?_)
       refine r_eff 16 rfl (by kernel_rfl) (zJ (c' := #[(.int .i64 (ldH d.p d.la 0).seq), (.int .i64 (ldH d.p d.la 0).ep), (.int .i64 (ldH d.p d.la 0).cut), (.int .i64 (ldH d.p d.la 0).st), (.int .i64 (ldH d.p d.la 0).mrk), (.pointer (some ⟨db, 0, none⟩)), (.pointer (some ⟨ab3, 0, none⟩)), v89, (.int .i64 ((chainS ((ldH d.p d.la 0).ep) ((ldH d.p d.la 0).cut) ((ringB d (((d.la.length : Nat) : Int) - 2) (ldH d.p d.la 0).st).length + 1) (ringB d (((d.la.length : Nat) : Int) - 2) (ldH d.p d.la 0).st) ((ldH d.p d.la 0).st) (-1)).2)), (.int .i64 ((((chainS ((ldH d.p d.la 0).ep) ((ldH d.p d.la 0).cut) ((ringB d (((d.la.length : Nat) : Int) - 2) (ldH d.p d.la 0).st).length + 1) (ringB d (((d.la.length : Nat) : Int) - 2) (ldH d.p d.la 0).st) ((ldH d.p d.la 0).st) (-1)).1).length : Nat) : Int)), (.int .i64 0), (.bool false), (.int .i64 0)]) ti37 rfl rfl ho91.one (by simp) rfl (hH93.front 3 rfl) fun w95 hH96 => ?_)
       refine Rest.done (by kernel_rfl) ?_
       refine zG ?_
       refine zc (hK71 _ _ ?_)
       refine zb ?_
       refine za (zH (a := (j : Int)) (b := 1) e61_80 rfl (w64 (by omega) (by omega)) ?_)
       refine za (zd (v := (.int .i64 ((j : Int) + 1))) rfl ?_)
       refine zf ?_
       have hH97 : Has E w95 [s90, [Hp.one b56 (.cells #[(.int .i64 (ldH d.p d.la 0).seq), (.int .i64 (ldH d.p d.la 0).ep), (.int .i64 (ldH d.p d.la 0).cut), (.int .i64 (ldH d.p d.la 0).st), (.int .i64 (ldH d.p d.la 0).mrk), (.pointer (some ⟨db, 0, none⟩)), (.pointer (some ⟨ab3, 0, none⟩)), v89, (.int .i64 ((chainS ((ldH d.p d.la 0).ep) ((ldH d.p d.la 0).cut) ((ringB d (((d.la.length : Nat) : Int) - 2) (ldH d.p d.la 0).st).length + 1) (ringB d (((d.la.length : Nat) : Int) - 2) (ldH d.p d.la 0).st) ((ldH d.p d.la 0).st) (-1)).2)), (.int .i64 ((((chainS ((ldH d.p d.la 0).ep) ((ldH d.p d.la 0).cut) ((ringB d (((d.la.length : Nat) : Int) - 2) (ldH d.p d.la 0).st).length + 1) (ringB d (((d.la.length : Nat) : Int) - 2) (ldH d.p d.la 0).st) ((ldH d.p d.la 0).st) (-1)).1).length : Nat) : Int)), (.int .i64 0), (.bool false), (.int .i64 0)] 175 (0, 0))], s39, sg, [Hp.one pb (.cells #[(.bool d.p.off), (.bool d.p.armed), (.int .i64 d.p.left), (.int .i64 d.p.uses)] 145 (0, 0))], [Hp.one ab3 (.cells #[(.pointer (some ⟨db, 0, none⟩)), (.int .i64 2), (.int .i64 (((d.la.length : Nat) : Int) - 2))] 265 (0, 0))], [Hp.one b14 (.cells #[(.int .i64 (ldH d.p d.la 0).seq), (.int .i64 (ldH d.p d.la 0).ep), (.int .i64 (ldH d.p d.la 0).cut), (.int .i64 (ldH d.p d.la 0).st), (.int .i64 (ldH d.p d.la 0).mrk)] 23 (0, 0))], R] := Has.pick hH96 [1, 0, 2, 2, 2, 2, 2, 2] (by kernel_rfl)
       refine zc ⟨((chainS ((ldH d.p d.la 0).ep) ((ldH d.p d.la 0).cut) ((ringB d (((d.la.length : Nat) : Int) - 2) (ldH d.p d.la 0).st).length + 1) (ringB d (((d.la.length : Nat) : Int) - 2) (ldH d.p d.la 0).st) ((ldH d.p d.la 0).st) (-1)).1).length - (j + 1), _, rfl, ?_, ?_⟩
       · omega
       · exact ⟨(j + 1), v89, s90, (acc ++ [(LEnt.mk x76.gsn x76.pl x76.data)]), rfl, hH97, (by omega), (ho91), (by rw [zO (show (chainS ((ldH d.p d.la 0).ep) ((ldH d.p d.la 0).cut) ((ringB d (((d.la.length : Nat) : Int) - 2) (ldH d.p d.la 0).st).length + 1) (ringB d (((d.la.length : Nat) : Int) - 2) (ldH d.p d.la 0).st) ((ldH d.p d.la 0).st) (-1)).1[j]? = some _ from hx77), ent_snoc, ← hac]; rfl), (by simp only [List.length_append, List.length_cons, List.length_nil]; omega), e61_0, e61_2, e61_3, e61_4, e61_5, e61_6, e61_7, e61_8, e61_9, e61_10, e61_19, e61_27, e61_39, e61_68, e61_78, e61_79, rfl⟩
      ·
       refine wp_exit ?_
       refine zx (zx (x_in (?_)))
       refine zc (hK59 _ _ ?_)
       refine wp_seq_k fun K98 hK98 => ?_
       refine zb ?_
       refine za (zd (v := (.pointer (some ⟨b56, 0, none⟩))) e61_10 ?_)
       refine za (ze (v := (.pointer (some ⟨b56, 0, none⟩))) rfl ?_)
       refine za (ze (v := (.int .i64 0)) rfl ?_)
       refine zf ?_
       refine zc (hK98 _ _ ?_)
       refine wp_ret ?_
       refine zV Tryz.results16  (v := (.pointer (some ⟨b56, 0, none⟩))) rfl (x := (.int .i64 0)) rfl ?_
       have hH99 : Has E w65 [([Hp.one b56 (.cells #[(.int .i64 (ldH d.p d.la 0).seq), (.int .i64 (ldH d.p d.la 0).ep), (.int .i64 (ldH d.p d.la 0).cut), (.int .i64 (ldH d.p d.la 0).st), (.int .i64 (ldH d.p d.la 0).mrk), (.pointer (some ⟨db, 0, none⟩)), (.pointer (some ⟨ab3, 0, none⟩)), va, (.int .i64 ((chainS ((ldH d.p d.la 0).ep) ((ldH d.p d.la 0).cut) ((ringB d (((d.la.length : Nat) : Int) - 2) (ldH d.p d.la 0).st).length + 1) (ringB d (((d.la.length : Nat) : Int) - 2) (ldH d.p d.la 0).st) ((ldH d.p d.la 0).st) (-1)).2)), (.int .i64 ((((chainS ((ldH d.p d.la 0).ep) ((ldH d.p d.la 0).cut) ((ringB d (((d.la.length : Nat) : Int) - 2) (ldH d.p d.la 0).st).length + 1) (ringB d (((d.la.length : Nat) : Int) - 2) (ldH d.p d.la 0).st) ((ldH d.p d.la 0).st) (-1)).1).length : Nat) : Int)), (.int .i64 0), (.bool false), (.int .i64 0)] 175 (0, 0))] ++ ha), s39, sg, [Hp.one pb (.cells #[(.bool d.p.off), (.bool d.p.armed), (.int .i64 d.p.left), (.int .i64 d.p.uses)] 145 (0, 0))], [Hp.one ab3 (.cells #[(.pointer (some ⟨db, 0, none⟩)), (.int .i64 2), (.int .i64 (((d.la.length : Nat) : Int) - 2))] 265 (0, 0))], [Hp.one b14 (.cells #[(.int .i64 (ldH d.p d.la 0).seq), (.int .i64 (ldH d.p d.la 0).ep), (.int .i64 (ldH d.p d.la 0).cut), (.int .i64 (ldH d.p d.la 0).st), (.int .i64 (ldH d.p d.la 0).mrk)] 23 (0, 0))], R] := Has.cl2 (hH66.front 1 rfl)
       have hd100 : StmAt db ab3 b56 ([Hp.one b56 (.cells #[(.int .i64 (ldH d.p d.la 0).seq), (.int .i64 (ldH d.p d.la 0).ep), (.int .i64 (ldH d.p d.la 0).cut), (.int .i64 (ldH d.p d.la 0).st), (.int .i64 (ldH d.p d.la 0).mrk), (.pointer (some ⟨db, 0, none⟩)), (.pointer (some ⟨ab3, 0, none⟩)), va, (.int .i64 ((chainS ((ldH d.p d.la 0).ep) ((ldH d.p d.la 0).cut) ((ringB d (((d.la.length : Nat) : Int) - 2) (ldH d.p d.la 0).st).length + 1) (ringB d (((d.la.length : Nat) : Int) - 2) (ldH d.p d.la 0).st) ((ldH d.p d.la 0).st) (-1)).2)), (.int .i64 ((((chainS ((ldH d.p d.la 0).ep) ((ldH d.p d.la 0).cut) ((ringB d (((d.la.length : Nat) : Int) - 2) (ldH d.p d.la 0).st).length + 1) (ringB d (((d.la.length : Nat) : Int) - 2) (ldH d.p d.la 0).st) ((ldH d.p d.la 0).st) (-1)).1).length : Nat) : Int)), (.int .i64 0), (.bool false), (.int .i64 0)] 175 (0, 0))] ++ ha) (⟨(ldH d.p d.la 0).seq, (ldH d.p d.la 0).ep, (ldH d.p d.la 0).cut, (ldH d.p d.la 0).st, (ldH d.p d.la 0).mrk, acc, (chainS ((ldH d.p d.la 0).ep) ((ldH d.p d.la 0).cut) ((ringB d (((d.la.length : Nat) : Int) - 2) (ldH d.p d.la 0).st).length + 1) (ringB d (((d.la.length : Nat) : Int) - 2) (ldH d.p d.la 0).st) ((ldH d.p d.la 0).st) (-1)).2, ((((chainS ((ldH d.p d.la 0).ep) ((ldH d.p d.la 0).cut) ((ringB d (((d.la.length : Nat) : Int) - 2) (ldH d.p d.la 0).st).length + 1) (ringB d (((d.la.length : Nat) : Int) - 2) (ldH d.p d.la 0).st) ((ldH d.p d.la 0).st) (-1)).1).length : Nat) : Int), 0, false, 0⟩ : StmS) := StmAt.mk (v := (⟨(ldH d.p d.la 0).seq, (ldH d.p d.la 0).ep, (ldH d.p d.la 0).cut, (ldH d.p d.la 0).st, (ldH d.p d.la 0).mrk, acc, (chainS ((ldH d.p d.la 0).ep) ((ldH d.p d.la 0).cut) ((ringB d (((d.la.length : Nat) : Int) - 2) (ldH d.p d.la 0).st).length + 1) (ringB d (((d.la.length : Nat) : Int) - 2) (ldH d.p d.la 0).st) ((ldH d.p d.la 0).st) (-1)).2, ((((chainS ((ldH d.p d.la 0).ep) ((ldH d.p d.la 0).cut) ((ringB d (((d.la.length : Nat) : Int) - 2) (ldH d.p d.la 0).st).length + 1) (ringB d (((d.la.length : Nat) : Int) - 2) (ldH d.p d.la 0).st) ((ldH d.p d.la 0).st) (-1)).1).length : Nat) : Int), 0, false, 0⟩ : StmS)) (.inl hoa)
       have hH101 : Has E w65 [([Hp.one b56 (.cells #[(.int .i64 (ldH d.p d.la 0).seq), (.int .i64 (ldH d.p d.la 0).ep), (.int .i64 (ldH d.p d.la 0).cut), (.int .i64 (ldH d.p d.la 0).st), (.int .i64 (ldH d.p d.la 0).mrk), (.pointer (some ⟨db, 0, none⟩)), (.pointer (some ⟨ab3, 0, none⟩)), va, (.int .i64 ((chainS ((ldH d.p d.la 0).ep) ((ldH d.p d.la 0).cut) ((ringB d (((d.la.length : Nat) : Int) - 2) (ldH d.p d.la 0).st).length + 1) (ringB d (((d.la.length : Nat) : Int) - 2) (ldH d.p d.la 0).st) ((ldH d.p d.la 0).st) (-1)).2)), (.int .i64 ((((chainS ((ldH d.p d.la 0).ep) ((ldH d.p d.la 0).cut) ((ringB d (((d.la.length : Nat) : Int) - 2) (ldH d.p d.la 0).st).length + 1) (ringB d (((d.la.length : Nat) : Int) - 2) (ldH d.p d.la 0).st) ((ldH d.p d.la 0).st) (-1)).1).length : Nat) : Int)), (.int .i64 0), (.bool false), (.int .i64 0)] 175 (0, 0))] ++ ha), [Hp.one ab3 (.cells #[(.pointer (some ⟨db, 0, none⟩)), (.int .i64 2), (.int .i64 (((d.la.length : Nat) : Int) - 2))] 265 (0, 0))], sg, [Hp.one pb (.cells #[(.bool d.p.off), (.bool d.p.armed), (.int .i64 d.p.left), (.int .i64 d.p.uses)] 145 (0, 0))], R] := (((((hH99.front 6 rfl).front 4 rfl).front 4 rfl).front 5 rfl).front 4 rfl).first 5 rfl
       have ho_ : opE d (((d.la.length : Nat) : Int) - 2) = 0 := opE_ok (Classical.not_not.1 h21) (fun k_ => by rcases k_ with k_ | k_ | k_; exact h46 k_; exact h49 k_; exact h52 k_)
       have hac2_ : acc = ((chainS ((ldH d.p d.la 0).ep) ((ldH d.p d.la 0).cut) ((ringB d (((d.la.length : Nat) : Int) - 2) (ldH d.p d.la 0).st).length + 1) (ringB d (((d.la.length : Nat) : Int) - 2) (ldH d.p d.la 0).st) ((ldH d.p d.la 0).st) (-1)).1).map entF := by rw [hac, List.take_of_length_le (by omega)]
       subst hac2_
       exact .inl ⟨ho_, _, _, _, _, rfl, hd, hd100, hH101⟩
theorem sopen_ok {E w : World} {R sg : List Hp} {pb db : Nat} {d : Dv} (hH : Has E w [sg, [Hp.one pb (.cells #[(.bool d.p.off), (.bool d.p.armed), (.int .i64 d.p.left), (.int .i64 d.p.uses)] 145 (0, 0))], R]) (hd : DevAt pb sg db d.la d.lo) (h4 : d.la.length ≤ 4096) (h3 : 3 ≤ d.la.length) (hon : d.p.off = false) (h64 : Full64 d.la) (hlo : d.lo = []) (hg : CellsAt R 0 0 nibV) (hm : opE d (((d.la.length : Nat) : Int) - 2) = 0) :
  Calls Tryz.prog 16 #[.pointer (some ⟨db, 0, none⟩)] w fun e w' => ∃ sb ab sg' ss, e = .returned (.tuple #[.pointer (some ⟨sb, 0, none⟩), .int .i64 0]) ∧ DevAt pb sg' db d.la d.lo ∧ StmAt db ab sb ss (opS d (((d.la.length : Nat) : Int) - 2)) ∧ Has E w' [ss, [Hp.one ab (.cells #[(.pointer (some ⟨db, 0, none⟩)), (.int .i64 2), (.int .i64 (((d.la.length : Nat) : Int) - 2))] 265 (0, 0))], sg', [Hp.one pb (.cells #[(.bool d.p.off), (.bool d.p.armed), (.int .i64 d.p.left), (.int .i64 d.p.uses)] 145 (0, 0))], R] :=
 (sopen_any hH hd h4 h3 hon h64 hlo hg).mono fun e w' h => h.elim (fun g => g.2) (fun g => absurd hm g.1)
theorem sopen_err {E w : World} {R sg : List Hp} {pb db : Nat} {d : Dv} (hH : Has E w [sg, [Hp.one pb (.cells #[(.bool d.p.off), (.bool d.p.armed), (.int .i64 d.p.left), (.int .i64 d.p.uses)] 145 (0, 0))], R]) (hd : DevAt pb sg db d.la d.lo) (h4 : d.la.length ≤ 4096) (h3 : 3 ≤ d.la.length) (hon : d.p.off = false) (h64 : Full64 d.la) (hlo : d.lo = []) (hg : CellsAt R 0 0 nibV) (hm : opE d (((d.la.length : Nat) : Int) - 2) ≠ 0) :
  Calls Tryz.prog 16 #[.pointer (some ⟨db, 0, none⟩)] w fun e w' => e = .returned (.tuple #[.pointer none, .int .i64 (opE d (((d.la.length : Nat) : Int) - 2))]) ∧ Has E w' [sg, [Hp.one pb (.cells #[(.bool d.p.off), (.bool d.p.armed), (.int .i64 d.p.left), (.int .i64 d.p.uses)] 145 (0, 0))], R] :=
 (sopen_any hH hd h4 h3 hon h64 hlo hg).mono fun e w' h => h.elim (fun g => absurd g.1 hm) (fun g => g.2)
end Go.Q
namespace Go.Q
open Go.Proofs
set_option linter.unusedVariables false
set_option maxRecDepth 100000
attribute [local irreducible] wpList OK Code.wp
set_option maxHeartbeats 4000000 in
theorem sflush_c {E w : World} {R sg ss : List Hp} {pb sb db ab : Nat} {d : Dv} {v : StmS} {n : Int} (hH : Has E w [sg, [Hp.one pb (.cells #[(.bool d.p.off), (.bool d.p.armed), (.int .i64 d.p.left), (.int .i64 d.p.uses)] 145 (0, 0))], [Hp.one ab (.cells #[(.pointer (some ⟨db, 0, none⟩)), (.int .i64 2), (.int .i64 n)] 265 (0, 0))], ss, R]) (hd : DevAt pb sg db d.la d.lo) (hs : StmAt db ab sb ss v) {k : Nat} (hf : Few d.p k) (hk : k ≤ 390000) (hlk : LoOk d.lo d.la.length) (h4 : d.la.length ≤ 4096) (h64 : Full64 d.la) (hln : (d.la.length : Int) = n + 2) (hok : StmOk n v) (hg : CellsAt R 0 0 nibV) {mark : Int} :
  Calls Tryz.prog 23 #[(.pointer (some ⟨sb, 0, none⟩)), (.int .i64 mark)] w fun e w' => ∃ sg' ss', e = .returned (.int .i64 (flS n d v mark).1) ∧ DevAt pb sg' db (flS n d v mark).2.1.la (flS n d v mark).2.1.lo ∧ StmAt db ab sb ss' (flS n d v mark).2.2 ∧ Has E w' [sg', [Hp.one pb (.cells #[(.bool ((flS n d v mark).2.1).p.off), (.bool ((flS n d v mark).2.1).p.armed), (.int .i64 ((flS n d v mark).2.1).p.left), (.int .i64 ((flS n d v mark).2.1).p.uses)] 145 (0, 0))], [Hp.one ab (.cells #[(.pointer (some ⟨db, 0, none⟩)), (.int .i64 2), (.int .i64 n)] 265 (0, 0))], ss', R] := by
 obtain ⟨hle1_, hle2_⟩ := hok.le
 obtain ⟨hn1_, hn2_⟩ := hok.num
 obtain ⟨hm1_, hm2_⟩ := hok.mrk
 obtain ⟨hs1_, hs2_⟩ := hok.st
 have ht_ := hok.tail
 obtain ⟨hr1_, hr2_⟩ := hok.res
 obtain ⟨hf1_, hf2_⟩ := hok.fl
 obtain ⟨hla1_, hla2_, hla3_⟩ := last_le hok
 have hfv_ : freeV n v = n * 64 - (v.tail - v.st) - v.res := rfl
 have hdl_ : (v.l.drop v.flushed.toNat).length = v.l.length - v.flushed.toNat := List.length_drop
 refine zs (args := [(.pointer (some ⟨sb, 0, none⟩)), (.int .i64 mark)]) Tryz.func23 rfl Tryz.ntmps23 (by simp) ?_
 refine wp_seq_k fun K1 hK1 => ?_
 refine zb ?_
 refine za (ze (v := (.int .i64 0)) rfl ?_)
 refine zf ?_
 refine zc (hK1 _ _ ?_)
 refine wp_seq_k fun K2 hK2 => ?_
 refine wp_seq_k fun K3 hK3 => ?_
 refine zb ?_
 refine za (zd (v := (.pointer (some ⟨sb, 0, none⟩))) rfl ?_)
 refine za (zk (vs := #[(.pointer (some ⟨sb, 0, none⟩))]) ca106 rfl (zF rfl) (sready_c (v := v) (db := db) (ab := ab) hH.all (hs.rd.mono (zh 3 rfl))) ?_)
 rintro _ w6 ⟨rfl, hX4⟩
 refine ⟨_, rfl, ?_⟩
 have hH5 := hX4.of_all
 refine za (ze (v := (.int .i64 (readyE v))) rfl ?_)
 refine zf ?_
 refine zc (hK3 _ _ ?_)
 refine wp_seq_k fun K7 hK7 => ?_
 refine zb ?_
 refine za (zd (v := (.int .i64 (readyE v))) rfl ?_)
 refine za (o_neq (a := (readyE v)) (b := 0) rfl rfl ?_)
 refine zf ?_
 refine zc (hK7 _ _ ?_)
 refine zt rfl (fun h8 => ?_) (fun h8 => ?_)
 ·
  refine wp_seq_k fun K9 hK9 => ?_
  refine zb ?_
  refine za (zd (v := (.int .i64 (readyE v))) rfl ?_)
  refine za (ze (v := (.int .i64 (readyE v))) rfl ?_)
  refine zf ?_
  refine zc (hK9 _ _ ?_)
  refine wp_ret ?_
  refine zv (zq Tryz.results23  (v := (.int .i64 (readyE v))) rfl ?_)
  have hE_ : (flS n d v mark) = ((readyE v), d, v) := by
   exact if_pos h8
  exact ⟨_, _, by rw [hE_], by rw [hE_]; exact hd, by rw [hE_]; exact hs, by rw [hE_]; exact hH5⟩
 ·
  refine wp_skip ?_
  refine zc (hK2 _ _ ?_)
  refine wp_seq_k fun K10 hK10 => ?_
  refine wp_seq_k fun K11 hK11 => ?_
  refine zb ?_
  refine za (zd (v := (.int .i64 mark)) rfl ?_)
  refine za (zd (v := (.pointer (some ⟨sb, 0, none⟩))) rfl ?_)
  refine za (zk (vs := #[(.pointer (some ⟨sb, 0, none⟩))]) ca29 rfl (zF rfl) (slast_c (v := v) (db := db) (ab := ab) (n := n) hH5.all (hs.rd.mono (zh 3 rfl)) hok) ?_)
  rintro _ w14 ⟨rfl, hX12⟩
  refine ⟨_, rfl, ?_⟩
  have hH13 := hX12.of_all
  refine za (zL (a := mark) (b := (lastV v)) rfl rfl ?_)
  refine za (zd (v := (.bool (decide (mark < (lastV v))))) rfl ?_)
  by_cases h15 : mark < (lastV v)
  ·
   refine zi (b' := true) 21 rfl (cT h15) rfl ?_
   refine zi (b' := true) 21 rfl (cT h15) rfl ?_
   refine za (zo (u := (.bool true)) ((rfl : _ = _).trans (cT h15)) rfl ?_)
   refine zf ?_
   refine zc (hK11 _ _ ?_)
   refine zN rfl rfl ?_
   refine wp_seq_k fun K16 hK16 => ?_
   refine zb ?_
   refine za (ze (v := (.int .i64 1)) rfl ?_)
   refine zf ?_
   refine zc (hK16 _ _ ?_)
   refine wp_ret ?_
   refine zv (zq Tryz.results23  (v := (.int .i64 1)) rfl ?_)
   have hE_ : (flS n d v mark) = (1, d, v) := by
    exact (if_neg h8).trans (if_pos (by omega))
   exact ⟨_, _, by rw [hE_], by rw [hE_]; exact hd, by rw [hE_]; exact hs, by rw [hE_]; exact hH13⟩
  ·
   refine zn 21 rfl (cF h15) (zd (v := (.int .i64 mark)) rfl ?_)
   refine zn 21 rfl (cF h15) (o_gtr (a := mark) (b := 4611686018427387903) rfl rfl ?_)
   refine za (zm (u := (.bool (decide (4611686018427387903 < mark)))) ((rfl : _ = _).trans (cF h15)) rfl ?_)
   refine zf ?_
   refine zc (hK11 _ _ ?_)
   refine zt rfl (fun h17 => ?_) (fun h17 => ?_)
   ·
    refine wp_seq_k fun K18 hK18 => ?_
    refine zb ?_
    refine za (ze (v := (.int .i64 1)) rfl ?_)
    refine zf ?_
    refine zc (hK18 _ _ ?_)
    refine wp_ret ?_
    refine zv (zq Tryz.results23  (v := (.int .i64 1)) rfl ?_)
    have hE_ : (flS n d v mark) = (1, d, v) := by
     exact (if_neg h8).trans (if_pos (by omega))
    exact ⟨_, _, by rw [hE_], by rw [hE_]; exact hd, by rw [hE_]; exact hs, by rw [hE_]; exact hH13⟩
   ·
    refine wp_skip ?_
    refine zc (hK10 _ _ ?_)
    refine wp_seq_k fun K19 hK19 => ?_
    refine wp_seq_k fun K20 hK20 => ?_
    refine zb ?_
    refine za (zd (v := (.pointer (some ⟨sb, 0, none⟩))) rfl ?_)
    refine za (zk (vs := #[(.pointer (some ⟨sb, 0, none⟩))]) ca37 rfl (zF rfl) (sloose_c (v := v) (db := db) (ab := ab) (n := n) hH13.all (hs.rd.mono (zh 3 rfl)) hok) ?_)
    rintro _ w23 ⟨rfl, hX21⟩
    refine ⟨_, rfl, ?_⟩
    have hH22 := hX21.of_all
    refine za (o_gtr (a := ((v.l.length : Int) - v.flushed)) (b := 0) rfl rfl ?_)
    refine zf ?_
    refine zc (hK20 _ _ ?_)
    refine zt rfl (fun h24 => ?_) (fun h24 => ?_)
    ·
     refine wp_seq_k fun K25 hK25 => ?_
     refine zb ?_
     refine za (ze (v := (.slice none 0 0)) rfl ?_)
     refine zf ?_
     refine zc (hK25 _ _ ?_)
     refine wp_seq_k fun K26 hK26 => ?_
     refine wp_seq_k fun K27 hK27 => ?_
     refine Rest.region mixed (by kernel_rfl) ?_
     have hH28 : Has E { w23 with drawn := w23.drawn + 1 } [sg, [Hp.one pb (.cells #[(.bool d.p.off), (.bool d.p.armed), (.int .i64 d.p.left), (.int .i64 d.p.uses)] 145 (0, 0))], [Hp.one ab (.cells #[(.pointer (some ⟨db, 0, none⟩)), (.int .i64 2), (.int .i64 n)] 265 (0, 0))], ss, R] := Has0.drew hH22 _
     obtain ⟨x29, s30, rfl, f31⟩ := hs
     have hH32 : Has E { w23 with drawn := w23.drawn + 1 } [[Hp.one sb (.cells #[(.int .i64 v.seq), (.int .i64 v.ep), (.int .i64 v.hcut), (.int .i64 v.st), (.int .i64 v.mrk), (.pointer (some ⟨db, 0, none⟩)), (.pointer (some ⟨ab, 0, none⟩)), x29, (.int .i64 v.tail), (.int .i64 v.flushed), (.int .i64 v.res), (.bool v.cut), (.int .i64 v.err)] 175 (0, 0))], s30, sg, [Hp.one pb (.cells #[(.bool d.p.off), (.bool d.p.armed), (.int .i64 d.p.left), (.int .i64 d.p.uses)] 145 (0, 0))], [Hp.one ab (.cells #[(.pointer (some ⟨db, 0, none⟩)), (.int .i64 2), (.int .i64 n)] 265 (0, 0))], R] := Has.op2 (hH28.front 3 rfl)
     refine Rest.phaseA (fun w_ => Has E w_ [[Hp.one sb (.cells #[(.int .i64 v.seq), (.int .i64 v.ep), (.int .i64 v.hcut), (.int .i64 v.st), (.int .i64 v.mrk), (.pointer (some ⟨db, 0, none⟩)), (.pointer (some ⟨ab, 0, none⟩)), x29, (.int .i64 v.tail), (.int .i64 v.flushed), (.int .i64 v.res), (.bool v.cut), (.int .i64 v.err)] 175 (0, 0))]]) 0 11 11 rfl (by decide) (by kernel_rfl) ?_
     refine zr 0 rfl (by kernel_rfl) (fun w_ h_ => zd (v := (.pointer (some ⟨sb, 0, none⟩))) rfl ⟨rfl, rfl⟩) ?_
     refine zr 1 rfl (by kernel_rfl) (fun w_ h_ => zl rfl ⟨rfl, rfl⟩) ?_
     refine zr 2 rfl (by kernel_rfl) (fun w_ h_ => zg (k := 7) (fun _ => by kernel_rfl) rfl ⟨rfl, rfl⟩) ?_
     refine zr 3 rfl (by kernel_rfl) (fun w_ h_ => zj (v := x29) Tryz.underlying37 rfl rfl h_ (zh 0 rfl) (CellsAt.one rfl) ⟨rfl, rfl⟩) ?_
     refine zr 4 rfl (by kernel_rfl) (fun w_ h_ => zd (v := (.pointer (some ⟨sb, 0, none⟩))) rfl ⟨rfl, rfl⟩) ?_
     refine zr 5 rfl (by kernel_rfl) (fun w_ h_ => zl rfl ⟨rfl, rfl⟩) ?_
     refine zr 6 rfl (by kernel_rfl) (fun w_ h_ => zg (k := 9) (fun _ => by kernel_rfl) rfl ⟨rfl, rfl⟩) ?_
     refine zr 7 rfl (by kernel_rfl) (fun w_ h_ => zj (v := (.int .i64 v.flushed)) Tryz.underlying3 rfl rfl h_ (zh 0 rfl) (CellsAt.one rfl) ⟨rfl, rfl⟩) ?_
     refine zr 10 rfl (by kernel_rfl) (fun w_ h_ => zd (v := (.int .i64 0)) rfl ⟨rfl, rfl⟩) ?_
     have hH33 : Has E { w23 with drawn := w23.drawn + 1 } [[Hp.one sb (.cells #[(.int .i64 v.seq), (.int .i64 v.ep), (.int .i64 v.hcut), (.int .i64 v.st), (.int .i64 v.mrk), (.pointer (some ⟨db, 0, none⟩)), (.pointer (some ⟨ab, 0, none⟩)), x29, (.int .i64 v.tail), (.int .i64 v.flushed), (.int .i64 v.res), (.bool v.cut), (.int .i64 v.err)] 175 (0, 0))]] := hH32.first 1 rfl
     refine a_w 8 rfl (by kernel_rfl) hH33 (o_sl_l Tryz.underlying37 ti42 rfl f31.sl rfl (by omega) (by omega) fun v34 hv35 => ?_)
     have hv36 := sl_dropF enC_len hv35
     refine zr 9 rfl (by kernel_rfl) (fun w_ h_ => zY Tryz.underlying37 rfl hv36 ⟨rfl, rfl⟩) ?_
     have hH37 : Has E { w23 with drawn := w23.drawn + 1 } [[Hp.one sb (.cells #[(.int .i64 v.seq), (.int .i64 v.ep), (.int .i64 v.hcut), (.int .i64 v.st), (.int .i64 v.mrk), (.pointer (some ⟨db, 0, none⟩)), (.pointer (some ⟨ab, 0, none⟩)), x29, (.int .i64 v.tail), (.int .i64 v.flushed), (.int .i64 v.res), (.bool v.cut), (.int .i64 v.err)] 175 (0, 0))]] := hH32.first 1 rfl
     refine zQ (by kernel_rfl) hH37 ?_
     refine Rest.done (by kernel_rfl) ?_
     refine zc (hK27 _ _ ?_)
     refine wp_block ?_
     let I39 : Nat → (Nat → Value) → World → Prop := fun n__ r__ w__ => ∃ (j : Nat) (va : Value) (ha : List Hp) (acc : List Bs), n__ = (v.l.drop (v.flushed).toNat).length - j ∧ Has E w__ [ha, [Hp.one sb (.cells #[(.int .i64 v.seq), (.int .i64 v.ep), (.int .i64 v.hcut), (.int .i64 v.st), (.int .i64 v.mrk), (.pointer (some ⟨db, 0, none⟩)), (.pointer (some ⟨ab, 0, none⟩)), x29, (.int .i64 v.tail), (.int .i64 v.flushed), (.int .i64 v.res), (.bool v.cut), (.int .i64 v.err)] 175 (0, 0))], s30, sg, [Hp.one pb (.cells #[(.bool d.p.off), (.bool d.p.armed), (.int .i64 d.p.left), (.int .i64 d.p.uses)] 145 (0, 0))], [Hp.one ab (.cells #[(.pointer (some ⟨db, 0, none⟩)), (.int .i64 2), (.int .i64 n)] 265 (0, 0))], R] ∧ (j ≤ (v.l.drop (v.flushed).toNat).length) ∧ (Own 9 1 va acc.length (acc.map sV) ha) ∧ (acc = layB v.ep ((v.l.drop (v.flushed).toNat).take j)) ∧ (acc.flatten.length ≤ 225 * j) ∧ r__ 0 = (.pointer (some ⟨sb, 0, none⟩)) ∧ r__ 1 = (.int .i64 mark) ∧ r__ 4 = (.int .i64 0) ∧ r__ 5 = (.int .i64 (readyE v)) ∧ r__ 6 = va ∧ r__ 15 = (.bool (decide ((readyE v) ≠ 0))) ∧ r__ 24 = (.bool (decide (4611686018427387903 < mark))) ∧ r__ 27 = (.bool (decide (0 < ((v.l.length : Int) - v.flushed)))) ∧ r__ 36 = v34 ∧ r__ 37 = (.int .i64 (((v.l.drop (v.flushed).toNat).length : Nat) : Int)) ∧ r__ 38 = (.int .i64 (j : Int))
     have hH40 : Has E { w23 with drawn := w23.drawn + 1 } [[], [Hp.one sb (.cells #[(.int .i64 v.seq), (.int .i64 v.ep), (.int .i64 v.hcut), (.int .i64 v.st), (.int .i64 v.mrk), (.pointer (some ⟨db, 0, none⟩)), (.pointer (some ⟨ab, 0, none⟩)), x29, (.int .i64 v.tail), (.int .i64 v.flushed), (.int .i64 v.res), (.bool v.cut), (.int .i64 v.err)] 175 (0, 0))], s30, sg, [Hp.one pb (.cells #[(.bool d.p.off), (.bool d.p.armed), (.int .i64 d.p.left), (.int .i64 d.p.uses)] 145 (0, 0))], [Hp.one ab (.cells #[(.pointer (some ⟨db, 0, none⟩)), (.int .i64 2), (.int .i64 n)] 265 (0, 0))], R] := Has.pick (Has.nil hH32) [0, 0, 0, 0, 0, 0, 0] (by kernel_rfl)
     refine zT I39 _ ⟨0, (.slice none 0 0), [], ([] : List Bs), rfl, hH40, Nat.zero_le _, Own.nil 9 1, rfl, (by simp), rfl, rfl, rfl, rfl, rfl, rfl, rfl, rfl, rfl, rfl, rfl⟩ ?_
     rintro n_ r43 w41 ⟨j, va, ha, acc, rfl, hH42, hj, hoa, hac, haf, e38_0, e38_1, e38_4, e38_5, e38_6, e38_15, e38_24, e38_27, e38_36, e38_37, e38_38⟩
     refine wp_seq_k fun K44 hK44 => ?_
     refine zb ?_
     refine za (zL (a := (j : Int)) (b := (((v.l.drop (v.flushed).toNat).length : Nat) : Int)) e38_38 e38_37 ?_)
     refine zf ?_
     refine zc (hK44 _ _ ?_)
     refine wp_seq_k fun K45 hK45 => ?_
     refine zt rfl (fun h46 => ?_) (fun h46 => ?_)
     ·
      refine wp_skip ?_
      refine zc (hK45 _ _ ?_)
      refine wp_seq_k fun K47 hK47 => ?_
      refine wp_block ?_
      refine wp_seq_k fun K48 hK48 => ?_
      refine zb ?_
      obtain ⟨x52, hx53⟩ : ∃ x_, (v.l.drop (v.flushed).toNat)[((j : Int)).toNat]? = some x_ := zM (by omega)
      refine za (o_indexF enC_len Tryz.underlying37 ti42 e38_36 hv36 rfl e38_38 (by omega) hx53 fun b49 o50 hc51 => ?_)
      refine za (zC (cs := [(.int .i64 x52.gsn), (.int .i64 x52.at_), (S x52.data)]) Tryz.underlying42 rfl ti42 rfl hH42 (zh 2 rfl) hc51 ?_)
      refine za (zU (cs := #[(.int .i64 0), (.int .i64 0), (S ([] : List UInt8))]) ti42 rfl hH42 fun b54 w55 hH56 => ?_)
      refine zB (zw (vs := [(.int .i64 x52.gsn), (.int .i64 x52.at_), (S x52.data)]) (c' := #[(.int .i64 x52.gsn), (.int .i64 x52.at_), (S x52.data)]) ti42 rfl rfl rfl rfl (by intro u hu; simp only [List.mem_cons, List.not_mem_nil, or_false] at hu; rcases hu with rfl | rfl | rfl <;> first | rfl) (by simp) (by kernel_rfl) (hH56.front 0 rfl) fun w57 hH58 => ?_)
      refine zf ?_
      refine zc (hK48 _ _ ?_)
      refine Rest.region mixed (by kernel_rfl) ?_
      have hH59 : Has E { w57 with drawn := w57.drawn + 1 } [[Hp.one b54 (.cells #[(.int .i64 x52.gsn), (.int .i64 x52.at_), (S x52.data)] 42 (0, 0))], ha, [Hp.one sb (.cells #[(.int .i64 v.seq), (.int .i64 v.ep), (.int .i64 v.hcut), (.int .i64 v.st), (.int .i64 v.mrk), (.pointer (some ⟨db, 0, none⟩)), (.pointer (some ⟨ab, 0, none⟩)), x29, (.int .i64 v.tail), (.int .i64 v.flushed), (.int .i64 v.res), (.bool v.cut), (.int .i64 v.err)] 175 (0, 0))], s30, sg, [Hp.one pb (.cells #[(.bool d.p.off), (.bool d.p.armed), (.int .i64 d.p.left), (.int .i64 d.p.uses)] 145 (0, 0))], [Hp.one ab (.cells #[(.pointer (some ⟨db, 0, none⟩)), (.int .i64 2), (.int .i64 n)] 265 (0, 0))], R] := Has0.drew hH58 _
      refine Rest.phaseA (fun w_ => Has E w_ [[Hp.one b54 (.cells #[(.int .i64 x52.gsn), (.int .i64 x52.at_), (S x52.data)] 42 (0, 0))], [Hp.one sb (.cells #[(.int .i64 v.seq), (.int .i64 v.ep), (.int .i64 v.hcut), (.int .i64 v.st), (.int .i64 v.mrk), (.pointer (some ⟨db, 0, none⟩)), (.pointer (some ⟨ab, 0, none⟩)), x29, (.int .i64 v.tail), (.int .i64 v.flushed), (.int .i64 v.res), (.bool v.cut), (.int .i64 v.err)] 175 (0, 0))]]) 0 16 16 rfl (by decide) (by kernel_rfl) ?_
      refine zr 0 rfl (by kernel_rfl) (fun w_ h_ => zd (v := va) e38_6 ⟨rfl, rfl⟩) ?_
      refine zr 1 rfl (by kernel_rfl) (fun w_ h_ => zd (v := (.pointer (some ⟨sb, 0, none⟩))) e38_0 ⟨rfl, rfl⟩) ?_
      refine zr 2 rfl (by kernel_rfl) (fun w_ h_ => zl rfl ⟨rfl, rfl⟩) ?_
      refine zr 3 rfl (by kernel_rfl) (fun w_ h_ => zg (k := 0) (fun _ => by kernel_rfl) rfl ⟨rfl, rfl⟩) ?_
      refine zr 4 rfl (by kernel_rfl) (fun w_ h_ => zg (k := 0) (fun _ => by kernel_rfl) rfl ⟨rfl, rfl⟩) ?_
      refine zr 5 rfl (by kernel_rfl) (fun w_ h_ => zg (k := 1) (fun _ => by kernel_rfl) rfl ⟨rfl, rfl⟩) ?_
      refine zr 6 rfl (by kernel_rfl) (fun w_ h_ => zj (v := (.int .i64 v.ep)) Tryz.underlying3 rfl rfl h_ (zh 1 rfl) (CellsAt.one rfl) ⟨rfl, rfl⟩) ?_
      refine zr 7 rfl (by kernel_rfl) (fun w_ h_ => zg (k := 1) (fun _ => by kernel_rfl) rfl ⟨rfl, rfl⟩) ?_
      refine zr 8 rfl (by kernel_rfl) (fun w_ h_ => zj (v := (.int .i64 x52.at_)) Tryz.underlying3 rfl rfl h_ (zh 0 rfl) (CellsAt.one rfl) ⟨rfl, rfl⟩) ?_
      refine zr 9 rfl (by kernel_rfl) (fun w_ h_ => zg (k := 0) (fun _ => by kernel_rfl) rfl ⟨rfl, rfl⟩) ?_
      refine zr 10 rfl (by kernel_rfl) (fun w_ h_ => zj (v := (.int .i64 x52.gsn)) Tryz.underlying3 rfl rfl h_ (zh 0 rfl) (CellsAt.one rfl) ⟨rfl, rfl⟩) ?_
      refine zr 11 rfl (by kernel_rfl) (fun w_ h_ => zg (k := 2) (fun _ => by kernel_rfl) rfl ⟨rfl, rfl⟩) ?_
      refine zr 12 rfl (by kernel_rfl) (fun w_ h_ => zj (v := (S x52.data)) Tryz.underlying9 rfl rfl h_ (zh 0 rfl) (CellsAt.one rfl) ⟨rfl, rfl⟩) ?_
      refine zr 13 rfl (by kernel_rfl) (fun w_ h_ => zK (v := (.agg #[(.int .i64 v.ep), (.int .i64 x52.at_), (.int .i64 x52.gsn), (S x52.data)])) (fun _ => by kernel_rfl) ⟨rfl, rfl⟩) ?_
      have hH60 : Has E { w57 with drawn := w57.drawn + 1 } [[Hp.one b54 (.cells #[(.int .i64 x52.gsn), (.int .i64 x52.at_), (S x52.data)] 42 (0, 0))], [Hp.one sb (.cells #[(.int .i64 v.seq), (.int .i64 v.ep), (.int .i64 v.hcut), (.int .i64 v.st), (.int .i64 v.mrk), (.pointer (some ⟨db, 0, none⟩)), (.pointer (some ⟨ab, 0, none⟩)), x29, (.int .i64 v.tail), (.int .i64 v.flushed), (.int .i64 v.res), (.bool v.cut), (.int .i64 v.err)] 175 (0, 0))]] := ((hH59.front 2 rfl).front 1 rfl).first 2 rfl
      refine a_w 14 rfl (by kernel_rfl) hH60 (zk (vs := #[(.agg #[(.int .i64 v.ep), (.int .i64 x52.at_), (.int .i64 x52.gsn), (S x52.data)]), (.slice none 0 0)]) ca107 rfl (zI rfl rfl) (make1_c hH59.all (hg.mono (zh 7 rfl)) (Fr.mk v.ep x52.at_ x52.gsn x52.data) (by have h_ := hok.dat _ (List.mem_of_mem_drop (List.mem_of_getElem? hx53)); show (x52.data).length ≤ _; omega)) ?_)
      rintro _ w63 ⟨rfl, hX61⟩
      refine ⟨_, rfl, ?_⟩
      have hH62 := hX61.of_all
      have hH64 : Has E w63 [[Hp.one b54 (.cells #[(.int .i64 x52.gsn), (.int .i64 x52.at_), (S x52.data)] 42 (0, 0))], [Hp.one sb (.cells #[(.int .i64 v.seq), (.int .i64 v.ep), (.int .i64 v.hcut), (.int .i64 v.st), (.int .i64 v.mrk), (.pointer (some ⟨db, 0, none⟩)), (.pointer (some ⟨ab, 0, none⟩)), x29, (.int .i64 v.tail), (.int .i64 v.flushed), (.int .i64 v.res), (.bool v.cut), (.int .i64 v.err)] 175 (0, 0))]] := ((hH62.front 2 rfl).front 1 rfl).first 2 rfl
      refine a_w 15 rfl (by kernel_rfl) hH64 (zu (ps := #[(0, (S (makeS (Fr.mk v.ep x52.at_ x52.gsn x52.data))))]) (cells := #[(S (makeS (Fr.mk v.ep x52.at_ x52.gsn x52.data)))]) Tryz.underlying46 ti9 (by decide) (parts1 rfl) (by kernel_rfl) hH62 fun b65 w66 hH67 => ?_)
      have hH68 : Has E w66 [[Hp.one b54 (.cells #[(.int .i64 x52.gsn), (.int .i64 x52.at_), (S x52.data)] 42 (0, 0))], [Hp.one sb (.cells #[(.int .i64 v.seq), (.int .i64 v.ep), (.int .i64 v.hcut), (.int .i64 v.st), (.int .i64 v.mrk), (.pointer (some ⟨db, 0, none⟩)), (.pointer (some ⟨ab, 0, none⟩)), x29, (.int .i64 v.tail), (.int .i64 v.flushed), (.int .i64 v.res), (.bool v.cut), (.int .i64 v.err)] 175 (0, 0))]] := ((hH67.front 3 rfl).front 2 rfl).first 2 rfl
      refine zQ (by kernel_rfl) hH68 ?_
      refine zP 16 rfl (by kernel_rfl) (o_append Tryz.underlying46 ti9 rfl (by decide) rfl hoa rfl (zW (f := sV) (l := [(makeS (Fr.mk v.ep x52.at_ x52.gsn x52.data))]) rfl rfl (by simp)) (hH67.front 2 rfl) (zh 0 rfl) (one_sV _) (by simp only [List.length_cons, List.length_nil]; have := congrArg List.length hac; rw [layB_len, List.length_take, List.length_drop] at this; omega) (by simp only [List.length_cons, List.length_nil]; have := congrArg List.length hac; rw [layB_len, List.length_take, List.length_drop] at this; omega) fun v69 s70 w72 ho71 hH73 => ?_)
      have ho71 : Own 9 1 v69 (acc ++ [(makeS (Fr.mk v.ep x52.at_ x52.gsn x52.data))]).length ((acc ++ [(makeS (Fr.mk v.ep x52.at_ x52.gsn x52.data))]).map sV) s70 := ho71.app
      refine zP 17 rfl (by kernel_rfl) (ze (v := v69) rfl ?_)
      refine Rest.done (by kernel_rfl) ?_
      refine zG ?_
      refine zc (hK47 _ _ ?_)
      refine zb ?_
      refine za (zH (a := (j : Int)) (b := 1) e38_38 rfl (w64 (by omega) (by omega)) ?_)
      refine za (zd (v := (.int .i64 ((j : Int) + 1))) rfl ?_)
      refine zf ?_
      have hH74 : Has E w72 [s70, [Hp.one sb (.cells #[(.int .i64 v.seq), (.int .i64 v.ep), (.int .i64 v.hcut), (.int .i64 v.st), (.int .i64 v.mrk), (.pointer (some ⟨db, 0, none⟩)), (.pointer (some ⟨ab, 0, none⟩)), x29, (.int .i64 v.tail), (.int .i64 v.flushed), (.int .i64 v.res), (.bool v.cut), (.int .i64 v.err)] 175 (0, 0))], s30, sg, [Hp.one pb (.cells #[(.bool d.p.off), (.bool d.p.armed), (.int .i64 d.p.left), (.int .i64 d.p.uses)] 145 (0, 0))], [Hp.one ab (.cells #[(.pointer (some ⟨db, 0, none⟩)), (.int .i64 2), (.int .i64 n)] 265 (0, 0))], R] := Has.pick hH73 [0, 2, 2, 2, 2, 2, 2] (by kernel_rfl)
      refine zc ⟨(v.l.drop (v.flushed).toNat).length - (j + 1), _, rfl, ?_, ?_⟩
      · omega
      · exact ⟨(j + 1), v69, s70, (acc ++ [(makeS (Fr.mk v.ep x52.at_ x52.gsn x52.data))]), rfl, hH74, (by omega), (ho71), (by rw [zO (show (v.l.drop (v.flushed).toNat)[j]? = some _ from hx53), layB_snoc, ← hac]; rfl), (by rw [List.flatten_append, List.length_append]; have h_ := make_le (frOf v.ep x52); simp only [List.flatten_cons, List.flatten_nil, List.append_nil]; unfold frOf at h_; omega), e38_0, e38_1, e38_4, e38_5, rfl, e38_15, e38_24, e38_27, e38_36, e38_37, rfl⟩
     ·
      refine wp_exit ?_
      refine zx (zx (x_in (?_)))
      refine zc (hK26 _ _ ?_)
      refine wp_seq_k fun K75 hK75 => ?_
      refine wp_seq_k fun K76 hK76 => ?_
      refine Rest.region mixed (by kernel_rfl) ?_
      have hH77 : Has E { w41 with drawn := w41.drawn + 1 } [ha, [Hp.one sb (.cells #[(.int .i64 v.seq), (.int .i64 v.ep), (.int .i64 v.hcut), (.int .i64 v.st), (.int .i64 v.mrk), (.pointer (some ⟨db, 0, none⟩)), (.pointer (some ⟨ab, 0, none⟩)), x29, (.int .i64 v.tail), (.int .i64 v.flushed), (.int .i64 v.res), (.bool v.cut), (.int .i64 v.err)] 175 (0, 0))], s30, sg, [Hp.one pb (.cells #[(.bool d.p.off), (.bool d.p.armed), (.int .i64 d.p.left), (.int .i64 d.p.uses)] 145 (0, 0))], [Hp.one ab (.cells #[(.pointer (some ⟨db, 0, none⟩)), (.int .i64 2), (.int .i64 n)] 265 (0, 0))], R] := Has0.drew hH42 _
      refine Rest.phaseA (fun w_ => Has E w_ [[Hp.one sb (.cells #[(.int .i64 v.seq), (.int .i64 v.ep), (.int .i64 v.hcut), (.int .i64 v.st), (.int .i64 v.mrk), (.pointer (some ⟨db, 0, none⟩)), (.pointer (some ⟨ab, 0, none⟩)), x29, (.int .i64 v.tail), (.int .i64 v.flushed), (.int .i64 v.res), (.bool v.cut), (.int .i64 v.err)] 175 (0, 0))], s30]) 0 16 16 rfl (by decide) (by kernel_rfl) ?_
      refine zr 0 rfl (by kernel_rfl) (fun w_ h_ => zd (v := (.pointer (some ⟨sb, 0, none⟩))) e38_0 ⟨rfl, rfl⟩) ?_
      refine zr 1 rfl (by kernel_rfl) (fun w_ h_ => zl rfl ⟨rfl, rfl⟩) ?_
      refine zr 2 rfl (by kernel_rfl) (fun w_ h_ => zg (k := 6) (fun _ => by kernel_rfl) rfl ⟨rfl, rfl⟩) ?_
      refine zr 3 rfl (by kernel_rfl) (fun w_ h_ => zj (v := (.pointer (some ⟨ab, 0, none⟩))) Tryz.underlying160 rfl rfl h_ (zh 0 rfl) (CellsAt.one rfl) ⟨rfl, rfl⟩) ?_
      refine zr 4 rfl (by kernel_rfl) (fun w_ h_ => zd (v := (.pointer (some ⟨sb, 0, none⟩))) e38_0 ⟨rfl, rfl⟩) ?_
      refine zr 5 rfl (by kernel_rfl) (fun w_ h_ => zl rfl ⟨rfl, rfl⟩) ?_
      refine zr 6 rfl (by kernel_rfl) (fun w_ h_ => zg (k := 7) (fun _ => by kernel_rfl) rfl ⟨rfl, rfl⟩) ?_
      refine zr 7 rfl (by kernel_rfl) (fun w_ h_ => zj (v := x29) Tryz.underlying37 rfl rfl h_ (zh 0 rfl) (CellsAt.one rfl) ⟨rfl, rfl⟩) ?_
      refine zr 8 rfl (by kernel_rfl) (fun w_ h_ => zd (v := (.pointer (some ⟨sb, 0, none⟩))) e38_0 ⟨rfl, rfl⟩) ?_
      refine zr 9 rfl (by kernel_rfl) (fun w_ h_ => zl rfl ⟨rfl, rfl⟩) ?_
      refine zr 10 rfl (by kernel_rfl) (fun w_ h_ => zg (k := 9) (fun _ => by kernel_rfl) rfl ⟨rfl, rfl⟩) ?_
      refine zr 11 rfl (by kernel_rfl) (fun w_ h_ => zj (v := (.int .i64 v.flushed)) Tryz.underlying3 rfl rfl h_ (zh 0 rfl) (CellsAt.one rfl) ⟨rfl, rfl⟩) ?_
      obtain ⟨x81, hx82⟩ : ∃ x_, v.l[(v.flushed).toNat]? = some x_ := zM (by omega)
      obtain ⟨b78, o79, hc80, ho83⟩ := ix_exF enC_len Tryz.underlying37 ti42 f31.sl (by omega) hx82
      refine zr 12 rfl (by kernel_rfl) (fun w_ h_ => ho83 rfl rfl ⟨rfl, rfl⟩) ?_
      refine zr 13 rfl (by kernel_rfl) (fun w_ h_ => zg (k := o79 + 1) (fun _ => by kernel_rfl) rfl ⟨rfl, rfl⟩) ?_
      refine zr 14 rfl (by kernel_rfl) (fun w_ h_ => zj (v := (.int .i64 x81.at_)) Tryz.underlying3 rfl rfl h_ (zh 1 rfl) (CellsAt.field (k := 1) (ds := [(.int .i64 x81.at_)]) hc80 rfl) ⟨rfl, rfl⟩) ?_
      refine zr 15 rfl (by kernel_rfl) (fun w_ h_ => zd (v := va) e38_6 ⟨rfl, rfl⟩) ?_
      have hH84 : Has E { w41 with drawn := w41.drawn + 1 } [[Hp.one sb (.cells #[(.int .i64 v.seq), (.int .i64 v.ep), (.int .i64 v.hcut), (.int .i64 v.st), (.int .i64 v.mrk), (.pointer (some ⟨db, 0, none⟩)), (.pointer (some ⟨ab, 0, none⟩)), x29, (.int .i64 v.tail), (.int .i64 v.flushed), (.int .i64 v.res), (.bool v.cut), (.int .i64 v.err)] 175 (0, 0))], s30] := ((hH77.front 2 rfl).front 2 rfl).first 2 rfl
      refine zQ (by kernel_rfl) hH84 ?_
      refine zP 16 rfl (by kernel_rfl) (zk (vs := #[(.pointer (some ⟨ab, 0, none⟩)), (.int .i64 x81.at_), va]) ca108 rfl (args3 rfl rfl rfl) (dset_c (d := d) (fr := 2) (n := n) (((hH77.front 5 rfl).front 5 rfl).front 5 rfl).all3 hd hf (by omega) h4 (by first | exact h64 | (rw [setA_la]; exact h64)) hlk (by omega) (by omega) (by omega) (at_ := x81.at_) (data := acc) (hoa.sl.mono (zh 0 rfl)) (by have := congrArg List.length hac; rw [layB_len, List.length_take, List.length_drop] at this; omega) (by omega)) ?_)
      rintro _ w89 ⟨sg85, rfl, hd86, hX87⟩
      refine ⟨_, rfl, ?_⟩
      have hH88 : Has E w89 [sg85, [Hp.one pb (.cells #[(.bool ((setA d 2 n x81.at_ acc.flatten).2).p.off), (.bool ((setA d 2 n x81.at_ acc.flatten).2).p.armed), (.int .i64 ((setA d 2 n x81.at_ acc.flatten).2).p.left), (.int .i64 ((setA d 2 n x81.at_ acc.flatten).2).p.uses)] 145 (0, 0))], [Hp.one ab (.cells #[(.pointer (some ⟨db, 0, none⟩)), (.int .i64 2), (.int .i64 n)] 265 (0, 0))], ha, [Hp.one sb (.cells #[(.int .i64 v.seq), (.int .i64 v.ep), (.int .i64 v.hcut), (.int .i64 v.st), (.int .i64 v.mrk), (.pointer (some ⟨db, 0, none⟩)), (.pointer (some ⟨ab, 0, none⟩)), x29, (.int .i64 v.tail), (.int .i64 v.flushed), (.int .i64 v.res), (.bool v.cut), (.int .i64 v.err)] 175 (0, 0))], s30, R] := hX87.of_all3
      refine zP 17 rfl (by kernel_rfl) (ze (v := (.int .i64 ((setA d 2 n x81.at_ acc.flatten).1))) rfl ?_)
      refine Rest.done (by kernel_rfl) ?_
      refine zc (hK76 _ _ ?_)
      refine wp_seq_k fun K90 hK90 => ?_
      refine zb ?_
      refine za (zd (v := (.int .i64 ((setA d 2 n x81.at_ acc.flatten).1))) rfl ?_)
      refine za (o_neq (a := (setA d 2 n x81.at_ acc.flatten).1) (b := 0) rfl rfl ?_)
      refine zf ?_
      refine zc (hK90 _ _ ?_)
      refine zt rfl (fun h91 => ?_) (fun h91 => ?_)
      ·
       refine wp_seq_k fun K92 hK92 => ?_
       refine zb ?_
       refine za (zd (v := (.pointer (some ⟨sb, 0, none⟩))) e38_0 ?_)
       refine za (zd (v := (.int .i64 ((setA d 2 n x81.at_ acc.flatten).1))) rfl ?_)
       have hH93 : Has E w89 [([Hp.one sb (.cells #[(.int .i64 v.seq), (.int .i64 v.ep), (.int .i64 v.hcut), (.int .i64 v.st), (.int .i64 v.mrk), (.pointer (some ⟨db, 0, none⟩)), (.pointer (some ⟨ab, 0, none⟩)), x29, (.int .i64 v.tail), (.int .i64 v.flushed), (.int .i64 v.res), (.bool v.cut), (.int .i64 v.err)] 175 (0, 0))] ++ s30), sg85, [Hp.one pb (.cells #[(.bool ((setA d 2 n x81.at_ acc.flatten).2).p.off), (.bool ((setA d 2 n x81.at_ acc.flatten).2).p.armed), (.int .i64 ((setA d 2 n x81.at_ acc.flatten).2).p.left), (.int .i64 ((setA d 2 n x81.at_ acc.flatten).2).p.uses)] 145 (0, 0))], [Hp.one ab (.cells #[(.pointer (some ⟨db, 0, none⟩)), (.int .i64 2), (.int .i64 n)] 265 (0, 0))], ha, R] := Has.cl2 ((hH88.front 5 rfl).front 5 rfl)
       have hd94 : StmAt db ab sb ([Hp.one sb (.cells #[(.int .i64 v.seq), (.int .i64 v.ep), (.int .i64 v.hcut), (.int .i64 v.st), (.int .i64 v.mrk), (.pointer (some ⟨db, 0, none⟩)), (.pointer (some ⟨ab, 0, none⟩)), x29, (.int .i64 v.tail), (.int .i64 v.flushed), (.int .i64 v.res), (.bool v.cut), (.int .i64 v.err)] 175 (0, 0))] ++ s30) v := StmAt.mk (v := v) f31
       refine za (zk (vs := #[(.pointer (some ⟨sb, 0, none⟩)), (.int .i64 ((setA d 2 n x81.at_ acc.flatten).1))]) ca109 rfl (zI rfl rfl) (sstays_c (db := db) (ab := ab) (v := v) (e_ := (setA d 2 n x81.at_ acc.flatten).1) hH93.all1 hd94) ?_)
       rintro _ w99 ⟨sg95, rfl, hd96, hX97⟩
       refine ⟨_, rfl, ?_⟩
       have hH98 : Has E w99 [sg95, sg85, [Hp.one pb (.cells #[(.bool ((setA d 2 n x81.at_ acc.flatten).2).p.off), (.bool ((setA d 2 n x81.at_ acc.flatten).2).p.armed), (.int .i64 ((setA d 2 n x81.at_ acc.flatten).2).p.left), (.int .i64 ((setA d 2 n x81.at_ acc.flatten).2).p.uses)] 145 (0, 0))], [Hp.one ab (.cells #[(.pointer (some ⟨db, 0, none⟩)), (.int .i64 2), (.int .i64 n)] 265 (0, 0))], ha, R] := hX97.of_all1
       refine za (ze (v := (.int .i64 ((setA d 2 n x81.at_ acc.flatten).1))) rfl ?_)
       refine zf ?_
       refine zc (hK92 _ _ ?_)
       refine wp_ret ?_
       refine zv (zv (zq Tryz.results23  (v := (.int .i64 ((setA d 2 n x81.at_ acc.flatten).1))) rfl ?_))
       have hH100 : Has E w99 [sg85, [Hp.one pb (.cells #[(.bool ((setA d 2 n x81.at_ acc.flatten).2).p.off), (.bool ((setA d 2 n x81.at_ acc.flatten).2).p.armed), (.int .i64 ((setA d 2 n x81.at_ acc.flatten).2).p.left), (.int .i64 ((setA d 2 n x81.at_ acc.flatten).2).p.uses)] 145 (0, 0))], [Hp.one ab (.cells #[(.pointer (some ⟨db, 0, none⟩)), (.int .i64 2), (.int .i64 n)] 265 (0, 0))], sg95, R] := (((((hH98.front 5 rfl).front 1 rfl).front 4 rfl).front 4 rfl).front 4 rfl).first 5 rfl
       have hE_ : (flS n d v mark) = (((setA d 2 n x81.at_ acc.flatten).1), (setA d 2 n x81.at_ acc.flatten).2, (stays v ((setA d 2 n x81.at_ acc.flatten).1))) := by
        rw [flS_go (Classical.not_not.1 h8) (by omega)]; rw [flL_some hx82]; have ha2_ : acc = layB v.ep (v.l.drop (v.flushed).toNat) := by rw [hac, List.take_of_length_le (by omega)]
        rw [← ha2_]; rw [fl1_set h91]; exact fl2_err h91
       exact ⟨_, _, by rw [hE_], by rw [hE_]; exact hd86, by rw [hE_]; exact hd96, by rw [hE_]; exact hH100⟩
      ·
       refine wp_skip ?_
       refine zc (hK75 _ _ ?_)
       refine wp_seq_k fun K101 hK101 => ?_
       refine wp_seq_k fun K102 hK102 => ?_
       refine zb ?_
       refine za (zd (v := (.pointer (some ⟨sb, 0, none⟩))) e38_0 ?_)
       refine za (zl rfl ?_)
       refine za (zg (k := 5) (fun _ => by kernel_rfl) rfl ?_)
       refine za (zj (v := (.pointer (some ⟨db, 0, none⟩))) Tryz.underlying25 rfl rfl hH88 (zh 4 rfl) (CellsAt.one rfl) ?_)
       refine za (zk (vs := #[(.pointer (some ⟨db, 0, none⟩))]) ca32 rfl (zF rfl) (dv_syN (d := (setA d 2 n x81.at_ acc.flatten).2) ((hH88.front 1 rfl).front 1 rfl).all2 hd86 ((few_setA hf (by omega)).ok (by omega)) (by simp only [syN_len, svD_len, setA_la, saveS_len, flL_len, dvwr_len]; exact h4) (setA_lk hlk)) ?_)
       rintro _ w107 ⟨sg103, rfl, hd104, hX105⟩
       refine ⟨_, rfl, ?_⟩
       have hH106 : Has E w107 [sg103, [Hp.one pb (.cells #[(.bool (((setA d 2 n x81.at_ acc.flatten).2).syN).p.off), (.bool (((setA d 2 n x81.at_ acc.flatten).2).syN).p.armed), (.int .i64 (((setA d 2 n x81.at_ acc.flatten).2).syN).p.left), (.int .i64 (((setA d 2 n x81.at_ acc.flatten).2).syN).p.uses)] 145 (0, 0))], [Hp.one ab (.cells #[(.pointer (some ⟨db, 0, none⟩)), (.int .i64 2), (.int .i64 n)] 265 (0, 0))], ha, [Hp.one sb (.cells #[(.int .i64 v.seq), (.int .i64 v.ep), (.int .i64 v.hcut), (.int .i64 v.st), (.int .i64 v.mrk), (.pointer (some ⟨db, 0, none⟩)), (.pointer (some ⟨ab, 0, none⟩)), x29, (.int .i64 v.tail), (.int .i64 v.flushed), (.int .i64 v.res), (.bool v.cut), (.int .i64 v.err)] 175 (0, 0))], s30, R] := hX105.of_all2
       refine za (ze (v := (.int .i64 (((setA d 2 n x81.at_ acc.flatten).2).syE))) rfl ?_)
       refine zf ?_
       refine zc (hK102 _ _ ?_)
       refine wp_seq_k fun K108 hK108 => ?_
       refine zb ?_
       refine za (zd (v := (.int .i64 (((setA d 2 n x81.at_ acc.flatten).2).syE))) rfl ?_)
       refine za (o_neq (a := ((setA d 2 n x81.at_ acc.flatten).2).syE) (b := 0) rfl rfl ?_)
       refine zf ?_
       refine zc (hK108 _ _ ?_)
       refine zt rfl (fun h109 => ?_) (fun h109 => ?_)
       ·
        refine wp_seq_k fun K110 hK110 => ?_
        refine zb ?_
        refine za (zd (v := (.pointer (some ⟨sb, 0, none⟩))) e38_0 ?_)
        refine za (zd (v := (.int .i64 (((setA d 2 n x81.at_ acc.flatten).2).syE))) rfl ?_)
        have hH111 : Has E w107 [([Hp.one sb (.cells #[(.int .i64 v.seq), (.int .i64 v.ep), (.int .i64 v.hcut), (.int .i64 v.st), (.int .i64 v.mrk), (.pointer (some ⟨db, 0, none⟩)), (.pointer (some ⟨ab, 0, none⟩)), x29, (.int .i64 v.tail), (.int .i64 v.flushed), (.int .i64 v.res), (.bool v.cut), (.int .i64 v.err)] 175 (0, 0))] ++ s30), sg103, [Hp.one pb (.cells #[(.bool (((setA d 2 n x81.at_ acc.flatten).2).syN).p.off), (.bool (((setA d 2 n x81.at_ acc.flatten).2).syN).p.armed), (.int .i64 (((setA d 2 n x81.at_ acc.flatten).2).syN).p.left), (.int .i64 (((setA d 2 n x81.at_ acc.flatten).2).syN).p.uses)] 145 (0, 0))], [Hp.one ab (.cells #[(.pointer (some ⟨db, 0, none⟩)), (.int .i64 2), (.int .i64 n)] 265 (0, 0))], ha, R] := Has.cl2 ((hH106.front 5 rfl).front 5 rfl)
        have hd112 : StmAt db ab sb ([Hp.one sb (.cells #[(.int .i64 v.seq), (.int .i64 v.ep), (.int .i64 v.hcut), (.int .i64 v.st), (.int .i64 v.mrk), (.pointer (some ⟨db, 0, none⟩)), (.pointer (some ⟨ab, 0, none⟩)), x29, (.int .i64 v.tail), (.int .i64 v.flushed), (.int .i64 v.res), (.bool v.cut), (.int .i64 v.err)] 175 (0, 0))] ++ s30) v := StmAt.mk (v := v) f31
        refine za (zk (vs := #[(.pointer (some ⟨sb, 0, none⟩)), (.int .i64 (((setA d 2 n x81.at_ acc.flatten).2).syE))]) ca109 rfl (zI rfl rfl) (sstays_c (db := db) (ab := ab) (v := v) (e_ := ((setA d 2 n x81.at_ acc.flatten).2).syE) hH111.all1 hd112) ?_)
        rintro _ w117 ⟨sg113, rfl, hd114, hX115⟩
        refine ⟨_, rfl, ?_⟩
        have hH116 : Has E w117 [sg113, sg103, [Hp.one pb (.cells #[(.bool (((setA d 2 n x81.at_ acc.flatten).2).syN).p.off), (.bool (((setA d 2 n x81.at_ acc.flatten).2).syN).p.armed), (.int .i64 (((setA d 2 n x81.at_ acc.flatten).2).syN).p.left), (.int .i64 (((setA d 2 n x81.at_ acc.flatten).2).syN).p.uses)] 145 (0, 0))], [Hp.one ab (.cells #[(.pointer (some ⟨db, 0, none⟩)), (.int .i64 2), (.int .i64 n)] 265 (0, 0))], ha, R] := hX115.of_all1
        refine za (ze (v := (.int .i64 (((setA d 2 n x81.at_ acc.flatten).2).syE))) rfl ?_)
        refine zf ?_
        refine zc (hK110 _ _ ?_)
        refine wp_ret ?_
        refine zv (zv (zq Tryz.results23  (v := (.int .i64 (((setA d 2 n x81.at_ acc.flatten).2).syE))) rfl ?_))
        have hH118 : Has E w117 [sg103, [Hp.one pb (.cells #[(.bool (((setA d 2 n x81.at_ acc.flatten).2).syN).p.off), (.bool (((setA d 2 n x81.at_ acc.flatten).2).syN).p.armed), (.int .i64 (((setA d 2 n x81.at_ acc.flatten).2).syN).p.left), (.int .i64 (((setA d 2 n x81.at_ acc.flatten).2).syN).p.uses)] 145 (0, 0))], [Hp.one ab (.cells #[(.pointer (some ⟨db, 0, none⟩)), (.int .i64 2), (.int .i64 n)] 265 (0, 0))], sg113, R] := (((((hH116.front 5 rfl).front 1 rfl).front 4 rfl).front 4 rfl).front 4 rfl).first 5 rfl
        have hE_ : (flS n d v mark) = ((((setA d 2 n x81.at_ acc.flatten).2).syE), ((setA d 2 n x81.at_ acc.flatten).2).syN, (stays v (((setA d 2 n x81.at_ acc.flatten).2).syE))) := by
         rw [flS_go (Classical.not_not.1 h8) (by omega)]; rw [flL_some hx82]; have ha2_ : acc = layB v.ep (v.l.drop (v.flushed).toNat) := by rw [hac, List.take_of_length_le (by omega)]
         rw [← ha2_]; rw [fl1_sy (Classical.not_not.1 h91) h109]; exact fl2_err h109
        exact ⟨_, _, by rw [hE_], by rw [hE_]; exact hd104, by rw [hE_]; exact hd114, by rw [hE_]; exact hH118⟩
       ·
        refine wp_skip ?_
        refine zc (hK101 _ _ ?_)
        refine zb ?_
        refine za (zd (v := (.pointer (some ⟨sb, 0, none⟩))) e38_0 ?_)
        refine za (zd (v := (.pointer (some ⟨sb, 0, none⟩))) e38_0 ?_)
        refine za (zl rfl ?_)
        refine za (zg (k := 7) (fun _ => by kernel_rfl) rfl ?_)
        refine za (zj (v := x29) Tryz.underlying37 rfl rfl hH106 (zh 4 rfl) (CellsAt.one rfl) ?_)
        refine za (zY Tryz.underlying37 rfl f31.sl ?_)
        refine za (zl rfl ?_)
        refine za (zg (k := 9) (fun _ => by kernel_rfl) rfl ?_)
        refine zB (zJ (c' := #[(.int .i64 v.seq), (.int .i64 v.ep), (.int .i64 v.hcut), (.int .i64 v.st), (.int .i64 v.mrk), (.pointer (some ⟨db, 0, none⟩)), (.pointer (some ⟨ab, 0, none⟩)), x29, (.int .i64 v.tail), (.int .i64 ((v.l.length : Nat) : Int)), (.int .i64 v.res), (.bool v.cut), (.int .i64 v.err)]) ti3 rfl rfl rfl (by simp) rfl (hH106.front 4 rfl) fun w119 hH120 => ?_)
        refine zf ?_
        refine zc (hK19 _ _ ?_)
        refine wp_seq_k fun K121 hK121 => ?_
        refine wp_seq_k fun K122 hK122 => ?_
        refine zb ?_
        refine za (zd (v := (.int .i64 mark)) e38_1 ?_)
        refine za (zd (v := (.pointer (some ⟨sb, 0, none⟩))) e38_0 ?_)
        refine za (zl rfl ?_)
        refine za (zg (k := 0) (fun _ => by kernel_rfl) rfl ?_)
        refine za (zg (k := 0) (fun _ => by kernel_rfl) rfl ?_)
        refine za (zg (k := 4) (fun _ => by kernel_rfl) rfl ?_)
        refine za (zj (v := (.int .i64 v.mrk)) Tryz.underlying3 rfl rfl hH120 (zh 0 rfl) (CellsAt.one rfl) ?_)
        refine za (yd (a := mark) (b := v.mrk) rfl rfl ?_)
        refine zf ?_
        refine zc (hK122 _ _ ?_)
        refine zt rfl (fun h123 => ?_) (fun h123 => ?_)
        ·
         refine wp_seq_k fun K124 hK124 => ?_
         refine zb ?_
         refine za (ze (v := (.int .i64 0)) rfl ?_)
         refine zf ?_
         refine zc (hK124 _ _ ?_)
         refine wp_ret ?_
         refine zv (zq Tryz.results23  (v := (.int .i64 0)) rfl ?_)
         have hH125 : Has E w119 [([Hp.one sb (.cells #[(.int .i64 v.seq), (.int .i64 v.ep), (.int .i64 v.hcut), (.int .i64 v.st), (.int .i64 v.mrk), (.pointer (some ⟨db, 0, none⟩)), (.pointer (some ⟨ab, 0, none⟩)), x29, (.int .i64 v.tail), (.int .i64 ((v.l.length : Nat) : Int)), (.int .i64 v.res), (.bool v.cut), (.int .i64 v.err)] 175 (0, 0))] ++ s30), sg103, [Hp.one pb (.cells #[(.bool (((setA d 2 n x81.at_ acc.flatten).2).syN).p.off), (.bool (((setA d 2 n x81.at_ acc.flatten).2).syN).p.armed), (.int .i64 (((setA d 2 n x81.at_ acc.flatten).2).syN).p.left), (.int .i64 (((setA d 2 n x81.at_ acc.flatten).2).syN).p.uses)] 145 (0, 0))], [Hp.one ab (.cells #[(.pointer (some ⟨db, 0, none⟩)), (.int .i64 2), (.int .i64 n)] 265 (0, 0))], ha, R] := Has.cl2 ((hH120.front 5 rfl).front 1 rfl)
         have hd126 : StmAt db ab sb ([Hp.one sb (.cells #[(.int .i64 v.seq), (.int .i64 v.ep), (.int .i64 v.hcut), (.int .i64 v.st), (.int .i64 v.mrk), (.pointer (some ⟨db, 0, none⟩)), (.pointer (some ⟨ab, 0, none⟩)), x29, (.int .i64 v.tail), (.int .i64 ((v.l.length : Nat) : Int)), (.int .i64 v.res), (.bool v.cut), (.int .i64 v.err)] 175 (0, 0))] ++ s30) (⟨v.seq, v.ep, v.hcut, v.st, v.mrk, v.l, v.tail, ((v.l.length : Nat) : Int), v.res, v.cut, v.err⟩ : StmS) := StmAt.mk (v := (⟨v.seq, v.ep, v.hcut, v.st, v.mrk, v.l, v.tail, ((v.l.length : Nat) : Int), v.res, v.cut, v.err⟩ : StmS)) f31
         have hH127 : Has E w119 [sg103, [Hp.one pb (.cells #[(.bool (((setA d 2 n x81.at_ acc.flatten).2).syN).p.off), (.bool (((setA d 2 n x81.at_ acc.flatten).2).syN).p.armed), (.int .i64 (((setA d 2 n x81.at_ acc.flatten).2).syN).p.left), (.int .i64 (((setA d 2 n x81.at_ acc.flatten).2).syN).p.uses)] 145 (0, 0))], [Hp.one ab (.cells #[(.pointer (some ⟨db, 0, none⟩)), (.int .i64 2), (.int .i64 n)] 265 (0, 0))], ([Hp.one sb (.cells #[(.int .i64 v.seq), (.int .i64 v.ep), (.int .i64 v.hcut), (.int .i64 v.st), (.int .i64 v.mrk), (.pointer (some ⟨db, 0, none⟩)), (.pointer (some ⟨ab, 0, none⟩)), x29, (.int .i64 v.tail), (.int .i64 ((v.l.length : Nat) : Int)), (.int .i64 v.res), (.bool v.cut), (.int .i64 v.err)] 175 (0, 0))] ++ s30), R] := (((((hH125.front 5 rfl).front 1 rfl).front 4 rfl).front 4 rfl).front 4 rfl).first 5 rfl
         have hE_ : (flS n d v mark) = (0, ((setA d 2 n x81.at_ acc.flatten).2).syN, (⟨v.seq, v.ep, v.hcut, v.st, v.mrk, v.l, v.tail, ((v.l.length : Nat) : Int), v.res, v.cut, v.err⟩ : StmS)) := by
          rw [flS_go (Classical.not_not.1 h8) (by omega)]; rw [flL_some hx82]; have ha2_ : acc = layB v.ep (v.l.drop (v.flushed).toNat) := by rw [hac, List.take_of_length_le (by omega)]
          rw [← ha2_]; rw [fl1_ok (Classical.not_not.1 h91) (Classical.not_not.1 h109)]; exact fl2_same rfl h123
         exact ⟨_, _, by rw [hE_], by rw [hE_]; exact hd104, by rw [hE_]; exact hd126, by rw [hE_]; exact hH127⟩
        ·
         refine wp_skip ?_
         refine zc (hK121 _ _ ?_)
         refine wp_seq_k fun K128 hK128 => ?_
         refine zb ?_
         refine za (zd (v := (.pointer (some ⟨sb, 0, none⟩))) e38_0 ?_)
         refine za (zl rfl ?_)
         refine za (zg (k := 0) (fun _ => by kernel_rfl) rfl ?_)
         refine za (zg (k := 0) (fun _ => by kernel_rfl) rfl ?_)
         refine za (zC (cs := [(.int .i64 v.seq), (.int .i64 v.ep), (.int .i64 v.hcut), (.int .i64 v.st), (.int .i64 v.mrk)]) Tryz.underlying23 rfl zR rfl hH120 (zh 0 rfl) (CellsAt.one rfl) ?_)
         refine za (zU (cs := #[(.int .i64 0), (.int .i64 0), (.int .i64 0), (.int .i64 0), (.int .i64 0)]) zR rfl hH120 fun b129 w130 hH131 => ?_)
         refine zB (zw (vs := [(.int .i64 v.seq), (.int .i64 v.ep), (.int .i64 v.hcut), (.int .i64 v.st), (.int .i64 v.mrk)]) (c' := #[(.int .i64 v.seq), (.int .i64 v.ep), (.int .i64 v.hcut), (.int .i64 v.st), (.int .i64 v.mrk)]) zR rfl rfl rfl rfl (by intro u hu; simp only [List.mem_cons, List.not_mem_nil, or_false] at hu; rcases hu with rfl | rfl | rfl | rfl | rfl <;> first | rfl) (by simp) (by kernel_rfl) (hH131.front 0 rfl) fun w132 hH133 => ?_)
         refine zf ?_
         refine zc (hK128 _ _ ?_)
         refine wp_seq_k fun K134 hK134 => ?_
         refine zb ?_
         refine za (zd (v := (.int .i64 mark)) e38_1 ?_)
         refine za (zg (k := 4) (fun _ => by kernel_rfl) rfl ?_)
         refine zB (zJ (c' := #[(.int .i64 v.seq), (.int .i64 v.ep), (.int .i64 v.hcut), (.int .i64 v.st), (.int .i64 mark)]) ti3 rfl rfl rfl (by simp) rfl (hH133.front 0 rfl) fun w135 hH136 => ?_)
         refine zf ?_
         refine zc (hK134 _ _ ?_)
         refine wp_seq_k fun K137 hK137 => ?_
         refine zb ?_
         refine za (zd (v := (.pointer (some ⟨sb, 0, none⟩))) e38_0 ?_)
         refine za (zC (cs := [(.int .i64 v.seq), (.int .i64 v.ep), (.int .i64 v.hcut), (.int .i64 v.st), (.int .i64 mark)]) Tryz.underlying23 rfl zR rfl hH136 (zh 0 rfl) (CellsAt.one rfl) ?_)
         have hH138 : Has E w135 [([Hp.one sb (.cells #[(.int .i64 v.seq), (.int .i64 v.ep), (.int .i64 v.hcut), (.int .i64 v.st), (.int .i64 v.mrk), (.pointer (some ⟨db, 0, none⟩)), (.pointer (some ⟨ab, 0, none⟩)), x29, (.int .i64 v.tail), (.int .i64 ((v.l.length : Nat) : Int)), (.int .i64 v.res), (.bool v.cut), (.int .i64 v.err)] 175 (0, 0))] ++ s30), [Hp.one b129 (.cells #[(.int .i64 v.seq), (.int .i64 v.ep), (.int .i64 v.hcut), (.int .i64 v.st), (.int .i64 mark)] 23 (0, 0))], sg103, [Hp.one pb (.cells #[(.bool (((setA d 2 n x81.at_ acc.flatten).2).syN).p.off), (.bool (((setA d 2 n x81.at_ acc.flatten).2).syN).p.armed), (.int .i64 (((setA d 2 n x81.at_ acc.flatten).2).syN).p.left), (.int .i64 (((setA d 2 n x81.at_ acc.flatten).2).syN).p.uses)] 145 (0, 0))], [Hp.one ab (.cells #[(.pointer (some ⟨db, 0, none⟩)), (.int .i64 2), (.int .i64 n)] 265 (0, 0))], ha, R] := Has.cl2 ((hH136.front 6 rfl).front 2 rfl)
         have hd139 : StmAt db ab sb ([Hp.one sb (.cells #[(.int .i64 v.seq), (.int .i64 v.ep), (.int .i64 v.hcut), (.int .i64 v.st), (.int .i64 v.mrk), (.pointer (some ⟨db, 0, none⟩)), (.pointer (some ⟨ab, 0, none⟩)), x29, (.int .i64 v.tail), (.int .i64 ((v.l.length : Nat) : Int)), (.int .i64 v.res), (.bool v.cut), (.int .i64 v.err)] 175 (0, 0))] ++ s30) (⟨v.seq, v.ep, v.hcut, v.st, v.mrk, v.l, v.tail, ((v.l.length : Nat) : Int), v.res, v.cut, v.err⟩ : StmS) := StmAt.mk (v := (⟨v.seq, v.ep, v.hcut, v.st, v.mrk, v.l, v.tail, ((v.l.length : Nat) : Int), v.res, v.cut, v.err⟩ : StmS)) f31
         refine za (zk (vs := #[(.pointer (some ⟨sb, 0, none⟩)), (.agg #[(.int .i64 v.seq), (.int .i64 v.ep), (.int .i64 v.hcut), (.int .i64 v.st), (.int .i64 mark)])]) ca110 rfl (zI rfl rfl) (ssave_c (d := ((setA d 2 n x81.at_ acc.flatten).2).syN) (v := (⟨v.seq, v.ep, v.hcut, v.st, v.mrk, v.l, v.tail, ((v.l.length : Nat) : Int), v.res, v.cut, v.err⟩ : StmS)) (((hH138.front 4 rfl).front 4 rfl).front 4 rfl).all4 hd104 hd139 (few_setA hf (by omega)).use (by omega) (syN_lo (setA_lk hlk)) (by simp only [syN_len, svD_len, setA_la, saveS_len, flL_len, dvwr_len]; exact h4) (hg.mono (zh 2 rfl)) (h := (Hd.mk v.seq v.ep v.hcut v.st mark))) ?_)
         rintro _ w146 ⟨sg140, ss142, rfl, hd141, hs143, hX144⟩
         refine ⟨_, rfl, ?_⟩
         have hH145 : Has E w146 [sg140, [Hp.one pb (.cells #[(.bool ((saveS (((setA d 2 n x81.at_ acc.flatten).2).syN) (⟨v.seq, v.ep, v.hcut, v.st, v.mrk, v.l, v.tail, ((v.l.length : Nat) : Int), v.res, v.cut, v.err⟩ : StmS) (Hd.mk v.seq v.ep v.hcut v.st mark)).2.1).p.off), (.bool ((saveS (((setA d 2 n x81.at_ acc.flatten).2).syN) (⟨v.seq, v.ep, v.hcut, v.st, v.mrk, v.l, v.tail, ((v.l.length : Nat) : Int), v.res, v.cut, v.err⟩ : StmS) (Hd.mk v.seq v.ep v.hcut v.st mark)).2.1).p.armed), (.int .i64 ((saveS (((setA d 2 n x81.at_ acc.flatten).2).syN) (⟨v.seq, v.ep, v.hcut, v.st, v.mrk, v.l, v.tail, ((v.l.length : Nat) : Int), v.res, v.cut, v.err⟩ : StmS) (Hd.mk v.seq v.ep v.hcut v.st mark)).2.1).p.left), (.int .i64 ((saveS (((setA d 2 n x81.at_ acc.flatten).2).syN) (⟨v.seq, v.ep, v.hcut, v.st, v.mrk, v.l, v.tail, ((v.l.length : Nat) : Int), v.res, v.cut, v.err⟩ : StmS) (Hd.mk v.seq v.ep v.hcut v.st mark)).2.1).p.uses)] 145 (0, 0))], [Hp.one ab (.cells #[(.pointer (some ⟨db, 0, none⟩)), (.int .i64 2), (.int .i64 n)] 265 (0, 0))], ss142, [Hp.one b129 (.cells #[(.int .i64 v.seq), (.int .i64 v.ep), (.int .i64 v.hcut), (.int .i64 v.st), (.int .i64 mark)] 23 (0, 0))], ha, R] := hX144.of_all4
         refine za (ze (v := (.int .i64 ((saveS (((setA d 2 n x81.at_ acc.flatten).2).syN) (⟨v.seq, v.ep, v.hcut, v.st, v.mrk, v.l, v.tail, ((v.l.length : Nat) : Int), v.res, v.cut, v.err⟩ : StmS) (Hd.mk v.seq v.ep v.hcut v.st mark)).1))) rfl ?_)
         refine zf ?_
         refine zc (hK137 _ _ ?_)
         refine wp_ret ?_
         refine zq Tryz.results23  (v := (.int .i64 ((saveS (((setA d 2 n x81.at_ acc.flatten).2).syN) (⟨v.seq, v.ep, v.hcut, v.st, v.mrk, v.l, v.tail, ((v.l.length : Nat) : Int), v.res, v.cut, v.err⟩ : StmS) (Hd.mk v.seq v.ep v.hcut v.st mark)).1))) rfl ?_
         have hH147 : Has E w146 [sg140, [Hp.one pb (.cells #[(.bool ((saveS (((setA d 2 n x81.at_ acc.flatten).2).syN) (⟨v.seq, v.ep, v.hcut, v.st, v.mrk, v.l, v.tail, ((v.l.length : Nat) : Int), v.res, v.cut, v.err⟩ : StmS) (Hd.mk v.seq v.ep v.hcut v.st mark)).2.1).p.off), (.bool ((saveS (((setA d 2 n x81.at_ acc.flatten).2).syN) (⟨v.seq, v.ep, v.hcut, v.st, v.mrk, v.l, v.tail, ((v.l.length : Nat) : Int), v.res, v.cut, v.err⟩ : StmS) (Hd.mk v.seq v.ep v.hcut v.st mark)).2.1).p.armed), (.int .i64 ((saveS (((setA d 2 n x81.at_ acc.flatten).2).syN) (⟨v.seq, v.ep, v.hcut, v.st, v.mrk, v.l, v.tail, ((v.l.length : Nat) : Int), v.res, v.cut, v.err⟩ : StmS) (Hd.mk v.seq v.ep v.hcut v.st mark)).2.1).p.left), (.int .i64 ((saveS (((setA d 2 n x81.at_ acc.flatten).2).syN) (⟨v.seq, v.ep, v.hcut, v.st, v.mrk, v.l, v.tail, ((v.l.length : Nat) : Int), v.res, v.cut, v.err⟩ : StmS) (Hd.mk v.seq v.ep v.hcut v.st mark)).2.1).p.uses)] 145 (0, 0))], [Hp.one ab (.cells #[(.pointer (some ⟨db, 0, none⟩)), (.int .i64 2), (.int .i64 n)] 265 (0, 0))], ss142, R] := (((((hH145.front 6 rfl).front 4 rfl).front 4 rfl).front 4 rfl).front 4 rfl).first 5 rfl
         have hE_ : (flS n d v mark) = ((saveS (((setA d 2 n x81.at_ acc.flatten).2).syN) (⟨v.seq, v.ep, v.hcut, v.st, v.mrk, v.l, v.tail, ((v.l.length : Nat) : Int), v.res, v.cut, v.err⟩ : StmS) (Hd.mk v.seq v.ep v.hcut v.st mark)).1, (saveS (((setA d 2 n x81.at_ acc.flatten).2).syN) (⟨v.seq, v.ep, v.hcut, v.st, v.mrk, v.l, v.tail, ((v.l.length : Nat) : Int), v.res, v.cut, v.err⟩ : StmS) (Hd.mk v.seq v.ep v.hcut v.st mark)).2.1, (saveS (((setA d 2 n x81.at_ acc.flatten).2).syN) (⟨v.seq, v.ep, v.hcut, v.st, v.mrk, v.l, v.tail, ((v.l.length : Nat) : Int), v.res, v.cut, v.err⟩ : StmS) (Hd.mk v.seq v.ep v.hcut v.st mark)).2.2) := by
          rw [flS_go (Classical.not_not.1 h8) (by omega)]; rw [flL_some hx82]; have ha2_ : acc = layB v.ep (v.l.drop (v.flushed).toNat) := by rw [hac, List.take_of_length_le (by omega)]
          rw [← ha2_]; rw [fl1_ok (Classical.not_not.1 h91) (Classical.not_not.1 h109)]; exact fl2_save rfl h123
         exact ⟨_, _, by rw [hE_], by rw [hE_]; exact hd141, by rw [hE_]; exact hs143, by rw [hE_]; exact hH147⟩
    ·
     refine wp_skip ?_
     refine zc (hK19 _ _ ?_)
     refine wp_seq_k fun K148 hK148 => ?_
     refine wp_seq_k fun K149 hK149 => ?_
     refine zb ?_
     refine za (zd (v := (.int .i64 mark)) rfl ?_)
     refine za (zd (v := (.pointer (some ⟨sb, 0, none⟩))) rfl ?_)
     refine za (zl rfl ?_)
     obtain ⟨x150, s151, rfl, f152⟩ := hs
     have hH153 : Has E w23 [[Hp.one sb (.cells #[(.int .i64 v.seq), (.int .i64 v.ep), (.int .i64 v.hcut), (.int .i64 v.st), (.int .i64 v.mrk), (.pointer (some ⟨db, 0, none⟩)), (.pointer (some ⟨ab, 0, none⟩)), x150, (.int .i64 v.tail), (.int .i64 v.flushed), (.int .i64 v.res), (.bool v.cut), (.int .i64 v.err)] 175 (0, 0))], s151, sg, [Hp.one pb (.cells #[(.bool d.p.off), (.bool d.p.armed), (.int .i64 d.p.left), (.int .i64 d.p.uses)] 145 (0, 0))], [Hp.one ab (.cells #[(.pointer (some ⟨db, 0, none⟩)), (.int .i64 2), (.int .i64 n)] 265 (0, 0))], R] := Has.op2 (hH22.front 3 rfl)
     refine za (zg (k := 0) (fun _ => by kernel_rfl) rfl ?_)
     refine za (zg (k := 0) (fun _ => by kernel_rfl) rfl ?_)
     refine za (zg (k := 4) (fun _ => by kernel_rfl) rfl ?_)
     refine za (zj (v := (.int .i64 v.mrk)) Tryz.underlying3 rfl rfl hH153 (zh 0 rfl) (CellsAt.one rfl) ?_)
     refine za (yd (a := mark) (b := v.mrk) rfl rfl ?_)
     refine zf ?_
     refine zc (hK149 _ _ ?_)
     refine zt rfl (fun h154 => ?_) (fun h154 => ?_)
     ·
      refine wp_seq_k fun K155 hK155 => ?_
      refine zb ?_
      refine za (ze (v := (.int .i64 0)) rfl ?_)
      refine zf ?_
      refine zc (hK155 _ _ ?_)
      refine wp_ret ?_
      refine zv (zq Tryz.results23  (v := (.int .i64 0)) rfl ?_)
      have hH156 : Has E w23 [([Hp.one sb (.cells #[(.int .i64 v.seq), (.int .i64 v.ep), (.int .i64 v.hcut), (.int .i64 v.st), (.int .i64 v.mrk), (.pointer (some ⟨db, 0, none⟩)), (.pointer (some ⟨ab, 0, none⟩)), x150, (.int .i64 v.tail), (.int .i64 v.flushed), (.int .i64 v.res), (.bool v.cut), (.int .i64 v.err)] 175 (0, 0))] ++ s151), sg, [Hp.one pb (.cells #[(.bool d.p.off), (.bool d.p.armed), (.int .i64 d.p.left), (.int .i64 d.p.uses)] 145 (0, 0))], [Hp.one ab (.cells #[(.pointer (some ⟨db, 0, none⟩)), (.int .i64 2), (.int .i64 n)] 265 (0, 0))], R] := Has.cl2 ((hH153.front 1 rfl).front 1 rfl)
      have hd157 : StmAt db ab sb ([Hp.one sb (.cells #[(.int .i64 v.seq), (.int .i64 v.ep), (.int .i64 v.hcut), (.int .i64 v.st), (.int .i64 v.mrk), (.pointer (some ⟨db, 0, none⟩)), (.pointer (some ⟨ab, 0, none⟩)), x150, (.int .i64 v.tail), (.int .i64 v.flushed), (.int .i64 v.res), (.bool v.cut), (.int .i64 v.err)] 175 (0, 0))] ++ s151) v := StmAt.mk (v := v) f152
      have hH158 : Has E w23 [sg, [Hp.one pb (.cells #[(.bool d.p.off), (.bool d.p.armed), (.int .i64 d.p.left), (.int .i64 d.p.uses)] 145 (0, 0))], [Hp.one ab (.cells #[(.pointer (some ⟨db, 0, none⟩)), (.int .i64 2), (.int .i64 n)] 265 (0, 0))], ([Hp.one sb (.cells #[(.int .i64 v.seq), (.int .i64 v.ep), (.int .i64 v.hcut), (.int .i64 v.st), (.int .i64 v.mrk), (.pointer (some ⟨db, 0, none⟩)), (.pointer (some ⟨ab, 0, none⟩)), x150, (.int .i64 v.tail), (.int .i64 v.flushed), (.int .i64 v.res), (.bool v.cut), (.int .i64 v.err)] 175 (0, 0))] ++ s151), R] := (((((hH156.front 4 rfl).front 1 rfl).front 4 rfl).front 4 rfl).front 4 rfl).first 5 rfl
      have hE_ : (flS n d v mark) = (0, d, v) := by
       rw [flS_go (Classical.not_not.1 h8) (by omega)]; rw [flL_none (by omega)]; exact fl2_same rfl h154
      exact ⟨_, _, by rw [hE_], by rw [hE_]; exact hd, by rw [hE_]; exact hd157, by rw [hE_]; exact hH158⟩
     ·
      refine wp_skip ?_
      refine zc (hK148 _ _ ?_)
      refine wp_seq_k fun K159 hK159 => ?_
      refine zb ?_
      refine za (zd (v := (.pointer (some ⟨sb, 0, none⟩))) rfl ?_)
      refine za (zl rfl ?_)
      refine za (zg (k := 0) (fun _ => by kernel_rfl) rfl ?_)
      refine za (zg (k := 0) (fun _ => by kernel_rfl) rfl ?_)
      refine za (zC (cs := [(.int .i64 v.seq), (.int .i64 v.ep), (.int .i64 v.hcut), (.int .i64 v.st), (.int .i64 v.mrk)]) Tryz.underlying23 rfl zR rfl hH153 (zh 0 rfl) (CellsAt.one rfl) ?_)
      refine za (zU (cs := #[(.int .i64 0), (.int .i64 0), (.int .i64 0), (.int .i64 0), (.int .i64 0)]) zR rfl hH153 fun b160 w161 hH162 => ?_)
      refine zB (zw (vs := [(.int .i64 v.seq), (.int .i64 v.ep), (.int .i64 v.hcut), (.int .i64 v.st), (.int .i64 v.mrk)]) (c' := #[(.int .i64 v.seq), (.int .i64 v.ep), (.int .i64 v.hcut), (.int .i64 v.st), (.int .i64 v.mrk)]) zR rfl rfl rfl rfl (by intro u hu; simp only [List.mem_cons, List.not_mem_nil, or_false] at hu; rcases hu with rfl | rfl | rfl | rfl | rfl <;> first | rfl) (by simp) (by kernel_rfl) (hH162.front 0 rfl) fun w163 hH164 => ?_)
      refine zf ?_
      refine zc (hK159 _ _ ?_)
      refine wp_seq_k fun K165 hK165 => ?_
      refine zb ?_
      refine za (zd (v := (.int .i64 mark)) rfl ?_)
      refine za (zg (k := 4) (fun _ => by kernel_rfl) rfl ?_)
      refine zB (zJ (c' := #[(.int .i64 v.seq), (.int .i64 v.ep), (.int .i64 v.hcut), (.int .i64 v.st), (.int .i64 mark)]) ti3 rfl rfl rfl (by simp) rfl (hH164.front 0 rfl) fun w166 hH167 => ?_)
      refine zf ?_
      refine zc (hK165 _ _ ?_)
      refine wp_seq_k fun K168 hK168 => ?_
      refine zb ?_
      refine za (zd (v := (.pointer (some ⟨sb, 0, none⟩))) rfl ?_)
      refine za (zC (cs := [(.int .i64 v.seq), (.int .i64 v.ep), (.int .i64 v.hcut), (.int .i64 v.st), (.int .i64 mark)]) Tryz.underlying23 rfl zR rfl hH167 (zh 0 rfl) (CellsAt.one rfl) ?_)
      have hH169 : Has E w166 [([Hp.one sb (.cells #[(.int .i64 v.seq), (.int .i64 v.ep), (.int .i64 v.hcut), (.int .i64 v.st), (.int .i64 v.mrk), (.pointer (some ⟨db, 0, none⟩)), (.pointer (some ⟨ab, 0, none⟩)), x150, (.int .i64 v.tail), (.int .i64 v.flushed), (.int .i64 v.res), (.bool v.cut), (.int .i64 v.err)] 175 (0, 0))] ++ s151), [Hp.one b160 (.cells #[(.int .i64 v.seq), (.int .i64 v.ep), (.int .i64 v.hcut), (.int .i64 v.st), (.int .i64 mark)] 23 (0, 0))], sg, [Hp.one pb (.cells #[(.bool d.p.off), (.bool d.p.armed), (.int .i64 d.p.left), (.int .i64 d.p.uses)] 145 (0, 0))], [Hp.one ab (.cells #[(.pointer (some ⟨db, 0, none⟩)), (.int .i64 2), (.int .i64 n)] 265 (0, 0))], R] := Has.cl2 ((hH167.front 2 rfl).front 2 rfl)
      have hd170 : StmAt db ab sb ([Hp.one sb (.cells #[(.int .i64 v.seq), (.int .i64 v.ep), (.int .i64 v.hcut), (.int .i64 v.st), (.int .i64 v.mrk), (.pointer (some ⟨db, 0, none⟩)), (.pointer (some ⟨ab, 0, none⟩)), x150, (.int .i64 v.tail), (.int .i64 v.flushed), (.int .i64 v.res), (.bool v.cut), (.int .i64 v.err)] 175 (0, 0))] ++ s151) v := StmAt.mk (v := v) f152
      refine za (zk (vs := #[(.pointer (some ⟨sb, 0, none⟩)), (.agg #[(.int .i64 v.seq), (.int .i64 v.ep), (.int .i64 v.hcut), (.int .i64 v.st), (.int .i64 mark)])]) ca110 rfl (zI rfl rfl) (ssave_c (d := d) (v := v) (((hH169.front 4 rfl).front 4 rfl).front 4 rfl).all4 hd hd170 hf (by omega) hlk h4 (hg.mono (zh 1 rfl)) (h := (Hd.mk v.seq v.ep v.hcut v.st mark))) ?_)
      rintro _ w177 ⟨sg171, ss173, rfl, hd172, hs174, hX175⟩
      refine ⟨_, rfl, ?_⟩
      have hH176 : Has E w177 [sg171, [Hp.one pb (.cells #[(.bool ((saveS d v (Hd.mk v.seq v.ep v.hcut v.st mark)).2.1).p.off), (.bool ((saveS d v (Hd.mk v.seq v.ep v.hcut v.st mark)).2.1).p.armed), (.int .i64 ((saveS d v (Hd.mk v.seq v.ep v.hcut v.st mark)).2.1).p.left), (.int .i64 ((saveS d v (Hd.mk v.seq v.ep v.hcut v.st mark)).2.1).p.uses)] 145 (0, 0))], [Hp.one ab (.cells #[(.pointer (some ⟨db, 0, none⟩)), (.int .i64 2), (.int .i64 n)] 265 (0, 0))], ss173, [Hp.one b160 (.cells #[(.int .i64 v.seq), (.int .i64 v.ep), (.int .i64 v.hcut), (.int .i64 v.st), (.int .i64 mark)] 23 (0, 0))], R] := hX175.of_all4
      refine za (ze (v := (.int .i64 ((saveS d v (Hd.mk v.seq v.ep v.hcut v.st mark)).1))) rfl ?_)
      refine zf ?_
      refine zc (hK168 _ _ ?_)
      refine wp_ret ?_
      refine zq Tryz.results23  (v := (.int .i64 ((saveS d v (Hd.mk v.seq v.ep v.hcut v.st mark)).1))) rfl ?_
      have hH178 : Has E w177 [sg171, [Hp.one pb (.cells #[(.bool ((saveS d v (Hd.mk v.seq v.ep v.hcut v.st mark)).2.1).p.off), (.bool ((saveS d v (Hd.mk v.seq v.ep v.hcut v.st mark)).2.1).p.armed), (.int .i64 ((saveS d v (Hd.mk v.seq v.ep v.hcut v.st mark)).2.1).p.left), (.int .i64 ((saveS d v (Hd.mk v.seq v.ep v.hcut v.st mark)).2.1).p.uses)] 145 (0, 0))], [Hp.one ab (.cells #[(.pointer (some ⟨db, 0, none⟩)), (.int .i64 2), (.int .i64 n)] 265 (0, 0))], ss173, R] := (((((hH176.front 5 rfl).front 4 rfl).front 4 rfl).front 4 rfl).front 4 rfl).first 5 rfl
      have hE_ : (flS n d v mark) = ((saveS d v (Hd.mk v.seq v.ep v.hcut v.st mark)).1, (saveS d v (Hd.mk v.seq v.ep v.hcut v.st mark)).2.1, (saveS d v (Hd.mk v.seq v.ep v.hcut v.st mark)).2.2) := by
       rw [flS_go (Classical.not_not.1 h8) (by omega)]; rw [flL_none (by omega)]; exact fl2_save rfl h154
      exact ⟨_, _, by rw [hE_], by rw [hE_]; exact hd172, by rw [hE_]; exact hs174, by rw [hE_]; exact hH178⟩
end Go.Q
namespace Go.Q
theorem fits_of {ep cut pl ab : Int} {f : Fr} (h : fitsF ep cut pl ab f = true) : rightS f = true ∧ f.pl = pl ∧ ab < f.gsn ∧ f.ep ≤ ep ∧ (f.pl < cut ∨ f.ep = ep) := by
 unfold fitsF at h
 rw [Bool.and_eq_true] at h
 exact ⟨h.1, of_decide_eq_true h.2⟩
theorem chain_ok (ep cut : Int) : ∀ (n : Nat) (s : Bs) (pl ab : Int), LaidE pl ((chainS ep cut n s pl ab).1.map entF) (chainS ep cut n s pl ab).2 ∧ (∀ f ∈ (chainS ep cut n s pl ab).1, rightS f = true ∧ ab < f.gsn) ∧ RisesE ((chainS ep cut n s pl ab).1.map entF)
 | 0, s, pl, ab => ⟨rfl, (fun f hf => by cases hf), List.Pairwise.nil⟩
 | n + 1, s, pl, ab => by
  rw [chainS]
  split
  ·
   rename_i h
   rw [Bool.and_eq_true] at h
   obtain ⟨f1, f2, f3, f4, f5⟩ := fits_of h.2
   have hN := oN_yes h.1
   obtain ⟨i1, i2, i3⟩ := chain_ok ep cut n (s.drop (oN s).toNat) (pl + oN s) (oF s).gsn
   refine ⟨⟨f2, ?_⟩, ?_, ?_⟩
   · rw [hN] at i1; rw [hN]; exact i1
   ·
    intro f hf
    rcases List.mem_cons.1 hf with rfl | hf
    · exact ⟨f1, f3⟩
    · have := i2 f hf; exact ⟨this.1, by omega⟩
   ·
    refine List.Pairwise.cons ?_ i3
    intro e he
    obtain ⟨f, hf, rfl⟩ := List.mem_map.1 he
    exact (i2 f hf).2
  · exact ⟨rfl, (fun f hf => by cases hf), List.Pairwise.nil⟩
theorem le_last {v : StmS} (hr : RisesE v.l) : ∀ e ∈ v.l, e.gsn ≤ lastV v := by
 intro e he
 obtain ⟨i, hi⟩ := List.mem_iff_getElem?.1 he
 obtain ⟨hlt, hx⟩ := List.getElem?_eq_some_iff.1 hi
 have hl : v.l[v.l.length - 1]? = some v.l[v.l.length - 1] := List.getElem?_eq_getElem (by omega)
 rw [last_some hl]
 rcases Nat.lt_or_ge i (v.l.length - 1) with g | g
 ·
  have := List.pairwise_iff_getElem.1 hr i (v.l.length - 1) hlt (by omega) g
  rw [hx] at this; omega
 ·
  have : i = v.l.length - 1 := by omega
  subst this
  rw [hx]; omega
theorem risesE_snoc {l : List LEnt} {x : LEnt} (h : RisesE l) (hx : ∀ e ∈ l, e.gsn < x.gsn) : RisesE (l ++ [x]) := by
 refine List.pairwise_append.2 ⟨h, List.pairwise_singleton _ _, ?_⟩
 intro a ha b hb
 rw [List.mem_singleton.1 hb]; exact hx a ha
section
variable {n : Int} {v : StmS}
theorem fmV_ok {h : Hd} (hn : 1 ≤ n ∧ n ≤ 4094) (hr : hdR h = true) (h0 : h.st = 0) : StmOk n (fmV h) := by
 obtain ⟨b1, b2, b3, b4, b5⟩ := of_decide_eq_true hr
 refine ⟨hn, b5, b4, b3, b2, b1, ?_, ?_, ?_, (fun e he => by cases he), (fun e he => by cases he), List.Pairwise.nil, ⟨Int.le_refl (0 : Int), Int.le_refl (0 : Int)⟩⟩
 · show (0 : Int) ≤ h.st + n * 64; omega
 · exact ⟨Int.le_refl (0 : Int), by show (0 : Int) ≤ n * 64 - (0 - h.st); omega⟩
 · exact h0.symm
theorem layS_ok (h : StmOk n v) {g : Int} {s : Bs} (hg : lastV v < g) (hg2 : g ≤ 4611686018427387903) (hs : s.length ≤ 200) (hf : 25 + (s.length : Int) ≤ freeV n v) : StmOk n (layS v g s) := by
 have hl := last_le h
 have hfr : freeV n v = n * 64 - (v.tail - v.st) - v.res := rfl
 have hr := h.res
 refine ⟨h.num, h.mrk, h.st, h.cut, h.ep, h.seq, ?_, ?_, h.lay.snoc g s, ?_, ?_, ?_, ?_⟩
 · show v.tail + (25 + (s.length : Int)) ≤ v.st + n * 64; omega
 · exact ⟨hr.1, by show v.res ≤ n * 64 - (v.tail + (25 + (s.length : Int)) - v.st); omega⟩
 ·
  intro e he
  rcases List.mem_append.1 he with q | q
  · exact h.gsn e q
  · rw [List.mem_singleton.1 q]; exact ⟨by show 0 ≤ g; omega, hg2⟩
 ·
  intro e he
  rcases List.mem_append.1 he with q | q
  · exact h.dat e q
  · rw [List.mem_singleton.1 q]; exact hs
 ·
  refine risesE_snoc h.rise fun e he => ?_
  have := le_last h.rise e he
  show e.gsn < g; omega
 ·
  have := h.fl
  exact ⟨this.1, by show v.flushed ≤ ((v.l ++ [_]).length : Int); rw [List.length_append, List.length_singleton]; omega⟩
theorem apS_ok (h : StmOk n v) (g : Int) (s : Bs) : StmOk n (apS n v g s) := by
 unfold apS
 split
 ·
  rename_i h0
  unfold apE at h0
  split at h0
  · rename_i h1; exact absurd h0 h1
  ·
   rename_i h1
   split at h0
   · cases h0
   ·
    obtain ⟨_, h2, h3, h4⟩ := mayL_zero (Classical.not_not.1 h1)
    exact layS_ok h h2 h3 (by omega) (by omega)
 · exact h
theorem stays_ok (h : StmOk n v) (e : Int) : StmOk n (stays v e) := by
 unfold stays
 split
 · exact ⟨h.num, h.mrk, h.st, h.cut, h.ep, h.seq, h.tail, h.res, h.lay, h.gsn, h.dat, h.rise, h.fl⟩
 · exact h
theorem flushed_ok (h : StmOk n v) : StmOk n { v with flushed := v.l.length } :=
 ⟨h.num, h.mrk, h.st, h.cut, h.ep, h.seq, h.tail, h.res, h.lay, h.gsn, h.dat, h.rise, ⟨by show (0 : Int) ≤ v.l.length; omega, Int.le_refl _⟩⟩
/-- another head, with the same start -/
theorem put_ok (h : StmOk n v) {x : Hd} (hr : hdR x = true) (hs : x.st = v.st) : StmOk n (v.put x) := by
 obtain ⟨b1, b2, b3, b4, b5⟩ := of_decide_eq_true hr
 refine ⟨h.num, b5, b4, b3, b2, b1, ?_, ?_, ?_, h.gsn, h.dat, h.rise, h.fl⟩
 · show v.tail ≤ x.st + n * 64; rw [hs]; exact h.tail
 · show 0 ≤ v.res ∧ v.res ≤ n * 64 - (v.tail - x.st); rw [hs]; exact h.res
 · show LaidE x.st v.l v.tail; rw [hs]; exact h.lay
theorem svD_hd {d : Dv} {x : Int} {h : Hd} (h0 : (svD d x h).1 = 0) : svOk h ∧ (svD d x h).2.1 = hdUp h := by
 unfold svD at h0 ⊢
 split
 · rename_i g; rw [if_pos g] at h0; cases h0
 rename_i g
 rw [if_neg g] at h0
 split
 · rename_i g2; rw [if_pos g2] at h0; exact absurd h0 g2
 rename_i g2
 rw [if_neg g2] at h0
 split
 · rename_i g3; rw [if_pos g3] at h0; exact absurd h0 g3
 rename_i g3
 rw [if_neg g3] at h0
 split
 · rename_i g4; rw [if_pos g4] at h0; exact absurd h0 g4
 · exact ⟨Classical.not_not.1 g, rfl⟩
theorem saveS_ok (h : StmOk n v) {d : Dv} {x : Hd} (hs : x.st = v.st) : StmOk n (saveS d v x).2.2 := by
 refine stays_ok ?_ _
 split
 ·
  rename_i h0
  obtain ⟨g1, g2⟩ := svD_hd h0
  rw [g2]
  exact put_ok h g1.up hs
 · exact h
theorem flL_ok (h : StmOk n v) (d : Dv) : StmOk n (flL n d v).2.2 := by
 unfold flL
 split
 · exact h
 ·
  unfold fl1
  split
  · exact stays_ok h _
  ·
   split
   · exact stays_ok h _
   · exact flushed_ok h
theorem flS_ok (h : StmOk n v) (d : Dv) (mark : Int) : StmOk n (flS n d v mark).2.2 := by
 unfold flS
 split
 · exact h
 ·
  split
  · exact h
  ·
   unfold fl2
   split
   · exact flL_ok h d
   ·
    split
    · exact flL_ok h d
    · exact saveS_ok (flL_ok h d) rfl
theorem opS_ok {d : Dv} (hn : 1 ≤ n ∧ n ≤ 4094) (h64 : Full64 d.la) (hlk : LoOk d.lo d.la.length) (hln : (d.la.length : Int) = n + 2) (h : opE d n = 0) : StmOk n (opS d n) := by
 have hld : ldE d.p d.la 0 = 0 := by
  unfold opE at h
  split at h
  · rename_i g; exact absurd h g
  · rename_i g; exact Classical.not_not.1 g
 obtain ⟨b1, b2, b3, b4, b5⟩ := of_decide_eq_true (ld_R hld)
 obtain ⟨c1, c2, c3⟩ := chain_count (ldH d.p d.la 0).ep (ldH d.p d.la 0).cut ((ringB d n (ldH d.p d.la 0).st).length + 1) (ringB d n (ldH d.p d.la 0).st) (ldH d.p d.la 0).st (-1)
 obtain ⟨k1, k2, k3⟩ := chain_ok (ldH d.p d.la 0).ep (ldH d.p d.la 0).cut ((ringB d n (ldH d.p d.la 0).st).length + 1) (ringB d n (ldH d.p d.la 0).st) (ldH d.p d.la 0).st (-1)
 have hrl := ringB_len (at_ := (ldH d.p d.la 0).st) h64 hlk hn.1 hln
 have hc2 : (opC d n).2 ≤ (ldH d.p d.la 0).st + ((n * 64).toNat : Int) := by rw [← hrl]; exact c2
 have hx : ∀ e ∈ (opS d n).l, ∃ f, rightS f = true ∧ e = entF f := by
  intro e he
  obtain ⟨f, hf, rfl⟩ := List.mem_map.1 he
  exact ⟨f, (k2 f hf).1, rfl⟩
 refine ⟨hn, b5, b4, b3, b2, b1, ?_, ?_, k1, ?_, ?_, k3, ?_⟩
 ·
  show (opC d n).2 ≤ (ldH d.p d.la 0).st + n * 64
  omega
 · exact ⟨Int.le_refl (0 : Int), by show (0 : Int) ≤ n * 64 - ((opC d n).2 - (ldH d.p d.la 0).st); omega⟩
 ·
  intro e he
  obtain ⟨f, hr, rfl⟩ := hx e he
  have := rightS_of hr
  exact ⟨this.2.2.2.2.1, this.2.2.2.2.2.1⟩
 ·
  intro e he
  obtain ⟨f, hr, rfl⟩ := hx e he
  exact (rightS_of hr).2.2.2.2.2.2
 · exact ⟨by show (0 : Int) ≤ ((opC d n).1.length : Int); omega, by show ((opC d n).1.length : Int) ≤ (((opC d n).1.map entF).length : Int); rw [List.length_map]; omega⟩
end
end Go.Q
namespace Go.Q
section
variable {n : Int} {d : Dv} {v : StmS} {k : Nat}
theorem flL_lo (hl : LoOk d.lo d.la.length) : LoOk (flL n d v).2.1.lo (flL n d v).2.1.la.length := by
 unfold flL
 split
 · exact hl
 ·
  unfold fl1
  split
  · exact setA_lk hl
  ·
   split
   · exact syN_lo (setA_lk hl)
   · exact syN_lo (setA_lk hl)
theorem flS_lo (hl : LoOk d.lo d.la.length) (m : Int) : LoOk (flS n d v m).2.1.lo (flS n d v m).2.1.la.length := by
 unfold flS
 split
 · exact hl
 ·
  split
  · exact hl
  ·
   unfold fl2
   split
   · exact flL_lo hl
   ·
    split
    · exact flL_lo hl
    · exact saveS_lo (flL_lo hl)
theorem wrs_lo : ∀ (g : Grp) (d : Dv), LoOk d.lo d.la.length → LoOk (wrs d g).2.lo (wrs d g).2.la.length
 | [], _, h => h
 | (n, s) :: t, d, h => by
  have e : wrs d ((n, s) :: t) = if d.wrE n s = 0 then wrs (d.wr n s) t else (d.wrE n s, d.wr n s) := rfl
  have h1 : LoOk (d.wr n s).lo (d.wr n s).la.length := h.write _ _ _
  rw [e]
  split
  · exact wrs_lo t _ h1
  · exact h1
theorem fmS_lo (hl : LoOk d.lo d.la.length) : LoOk (fmS d).2.2.lo (fmS d).2.2.la.length := by
 unfold fmS
 split
 · exact wrs_lo _ _ hl
 · exact svD_lo (wrs_lo _ _ hl)
theorem few_fmS (hf : Few d.p k) : Few (fmS d).2.2.p (k + d.la.length + 2) := by
 have h1 := few_wrs (fmtG d.la.length) d hf
 rw [fmtG_len] at h1
 unfold fmS
 split
 · exact h1.mono (by omega)
 · exact few_svD h1
end
end Go.Q
namespace Go.Q
def s8d0 : Dv := ⟨Pw.mk false false 0 0, List.replicate 6 blankS, []⟩
def s8d1 : Dv := (fmS s8d0).2.2
def s8v1 : StmS := fmV (fmS s8d0).2.1
def s8v2 : StmS := apS 4 s8v1 1 [97]
def s8v3 : StmS := apS 4 s8v2 2 [98, 99]
def s8d2 : Dv := (flS 4 s8d1 s8v3 2).2.1
def s8v4 : StmS := (flS 4 s8d1 s8v3 2).2.2
def s8v5 : StmS := apS 4 s8v4 5 [100]
def s8d3 : Dv := s8d2.cr []
def s8v6 : StmS := opS s8d3 4
theorem s8_f : (fmS s8d0).1 = 0 := by decide +kernel
theorem s8_h : (fmS s8d0).2.1 = ⟨1, 1, 0, 0, 0⟩ := by decide +kernel
theorem s8_a : apE 4 s8v1 1 [97] = 0 := by decide +kernel
theorem s8_b : apE 4 s8v2 2 [98, 99] = 0 := by decide +kernel
theorem s8_c : (flS 4 s8d1 s8v3 2).1 = 0 := by decide +kernel
theorem s8_o : opE s8d3 4 = 0 := by decide +kernel
theorem s8_l : s8v6.l.drop (posE s8v6.l 0).toNat = [⟨1, 0, [97]⟩, ⟨2, 26, [98, 99]⟩] := by decide +kernel
theorem s8_t : lastV s8v6 = 2 := by decide +kernel
theorem s8_on : s8d0.p.off = false ∧ s8d3.p.off = false := by decide +kernel
theorem s8_64 : Full64 s8d0.la ∧ Full64 s8d1.la ∧ Full64 s8d3.la := by unfold Full64; decide +kernel
theorem s8_n : s8d0.la.length = 6 ∧ s8d1.la.length = 6 ∧ s8d2.la.length = 6 ∧ s8d3.la.length = 6 := by decide +kernel
end Go.Q
namespace Go.Q
theorem s8_k1 : StmOk 4 s8v1 := fmV_ok ⟨by decide, by decide⟩ (by rw [s8_h]; decide +kernel) (by rw [s8_h])
theorem s8_k2 : StmOk 4 s8v2 := apS_ok s8_k1 _ _
theorem s8_k3 : StmOk 4 s8v3 := apS_ok s8_k2 _ _
theorem s8_k4 : StmOk 4 s8v4 := flS_ok s8_k3 _ _
theorem s8_k6 : StmOk 4 s8v6 := opS_ok ⟨by decide, by decide⟩ s8_64.2.2 (LoOk.nil _) (by rw [s8_n.2.2.2]; decide) s8_o
theorem s8_lk1 : LoOk s8d1.lo s8d1.la.length := fmS_lo (LoOk.nil _)
theorem s8_lk2 : LoOk s8d2.lo s8d2.la.length := flS_lo s8_lk1 _
theorem s8_f1 : Few s8d1.p 8 := few_fmS (d := s8d0) Few.new
end Go.Q
namespace Go.Q
theorem S_beq' (a b : List UInt8) : ((⟨a.toArray⟩ : ByteArray).toList == (⟨b.toArray⟩ : ByteArray).toList) = decide (a = b) := by
 rw [bytes_toList, bytes_toList]
 by_cases h : a = b
 · subst h; simp
 · rw [decide_eq_false h]; simpa using h
theorem int_beq' (a b : Int) : (a == b) = decide (a = b) := by
 by_cases h : a = b
 · subst h; simp
 · rw [decide_eq_false h]; simpa using h
theorem part1 {P : Program} {t : TypeId} {d : TypeDesc} (ht : P.underlying t = some d) (hd : aggB d = false) {xs : Array Value} {o : Nat} {v : Value} (hv : xs[o]? = some v) (w : World) : (part t xs o).run P w = .ok v w := by
 unfold part
 rw [Sem.run_bind, run_isAgg ht, hd]
 simp [hv]
theorem eqC_nil {P : Program} {d : Nat} {xs ys : Array Value} {w : World} : (Op.eqFields d xs ys []).run P w = .ok true w := rfl
theorem eqC_cons {P : Program} {d : Nat} {xs ys : Array Value} {f : Field} {fs : List Field} {a b : Value} {r r' : Bool} {w : World} {ft fo : Nat} (h : (f.type, f.offset, f.name == "_") = (ft, fo, false)) (ha : (part ft xs fo).run P w = .ok a w) (hb : (part ft ys fo).run P w = .ok b w)
  (he : (Op.equalIn d ft a b).run P w = .ok r w) (hk : (Op.eqFields d xs ys fs).run P w = .ok r' w) : (Op.eqFields d xs ys (f :: fs)).run P w = .ok (r && r') w := by
 simp only [Prod.mk.injEq] at h
 obtain ⟨rfl, rfl, hn⟩ := h
 have hn' : f.name ≠ "_" := by simpa using hn
 rw [Op.eqFields, if_pos hn']
 simp only [Sem.run_bind, ha, hb, he, Result.andThen_ok]
 cases r
 · simp
 · simpa using hk
theorem eqC_fields {P : Program} {d : Nat} {xs ys : Array Value} {r : Bool} {w : World} {l : List Field} {m : List (Nat × Nat × Bool)} (hf : l.map (fun f => (f.type, f.offset, f.name == "_")) = m) (h : ∀ l : List Field, l.map (fun f => (f.type, f.offset, f.name == "_")) = m → (Op.eqFields d xs ys l).run P w = .ok r w) :
  (Op.eqFields d xs ys l).run P w = .ok r w := h l hf
theorem eq_int {P : Program} {t : TypeId} {k' : IntKind} (h : P.underlying t = some (.int k')) (d : Nat) (k : IntKind) (a b : Int) (w : World) : (Op.equalIn (d + 1) t (.int k a) (.int k b)).run P w = .ok (decide (a = b)) w := by rw [run_equalIn_int w d t _ _ _ _ h, int_beq']
theorem eq_str {P : Program} {t : TypeId} (h : P.underlying t = some .string) (d : Nat) (a b : List UInt8) (w : World) : (Op.equalIn (d + 1) t (S a) (S b)).run P w = .ok (decide (a = b)) w := by
 unfold S; rw [run_equalIn_string w d t _ _ h, S_beq']
end Go.Q
namespace Go.Q
open Go.Proofs
set_option linter.unusedVariables false
set_option maxRecDepth 100000
def eqv42 (a0 : Int) (a1 : Int) (a2 : List UInt8) (b0 : Int) (b1 : Int) (b2 : List UInt8) : Bool := (decide (a0 = b0) && (decide (a1 = b1) && (decide (a2 = b2) && true)))
theorem eqT42 (d : Nat) (w : World) (a0 : Int) (a1 : Int) (a2 : List UInt8) (b0 : Int) (b1 : Int) (b2 : List UInt8) : (Op.equalIn (d + 2) 42 (.agg #[(.int .i64 a0), (.int .i64 a1), (S a2)]) (.agg #[(.int .i64 b0), (.int .i64 b1), (S b2)])).run Tryz.prog w = .ok (eqv42 a0 a1 a2 b0 b1 b2) w := by
 rw [run_equalIn_struct w _ 42 _ _ (by kernel_rfl) (by kernel_rfl)]
 refine eqC_fields (m := [(3, 0, false), (3, 1, false), (9, 2, false)]) (by kernel_rfl) fun l hl => ?_
 obtain ⟨f0, l0, rfl, h0, hl⟩ := List.map_eq_cons_iff.1 hl
 refine eqC_cons (ft := 3) (fo := 0) (a := (.int .i64 a0)) (b := (.int .i64 b0)) h0 (part1 Tryz.underlying3 rfl (by kernel_rfl) w) (part1 Tryz.underlying3 rfl (by kernel_rfl) w) (eq_int Tryz.underlying3 (d + 0) _ _ _ w) ?_
 obtain ⟨f1, l1, rfl, h1, hl⟩ := List.map_eq_cons_iff.1 hl
 refine eqC_cons (ft := 3) (fo := 1) (a := (.int .i64 a1)) (b := (.int .i64 b1)) h1 (part1 Tryz.underlying3 rfl (by kernel_rfl) w) (part1 Tryz.underlying3 rfl (by kernel_rfl) w) (eq_int Tryz.underlying3 (d + 0) _ _ _ w) ?_
 obtain ⟨f2, l2, rfl, h2, hl⟩ := List.map_eq_cons_iff.1 hl
 refine eqC_cons (ft := 9) (fo := 2) (a := (S a2)) (b := (S b2)) h2 (part1 Tryz.underlying9 rfl (by kernel_rfl) w) (part1 Tryz.underlying9 rfl (by kernel_rfl) w) (eq_str Tryz.underlying9 (d + 0) _ _ w) ?_
 obtain rfl := List.map_eq_nil_iff.1 hl
 exact eqC_nil
theorem o_eql42 {ρ : Operand → Value} {w : World} {K : Value → World → Prop} {dst : Option Tmp} {T : TypeId} {pos : String} {after : Array Edge} {g : Option (Nat × Bool)} {u : TypeId} {x y : Operand} (a0 : Int) (a1 : Int) (a2 : List UInt8) (b0 : Int) (b1 : Int) (b2 : List UInt8) (hx : ρ x = .agg #[(.int .i64 a0), (.int .i64 a1), (S a2)]) (hy : ρ y = .agg #[(.int .i64 b0), (.int .i64 b1), (S b2)]) (h : K (.bool ((eqv42 a0 a1 a2 b0 b1 b2))) w) :
  OK Tryz.prog ⟨dst, .binOp .eql 42 x y u, T, pos, after, g⟩ ρ w K :=
 o_eqx hx hy (run_eqGuard_agg w _ _ _ _ _ _ (by kernel_rfl)) rfl (eqT42 (9998) w a0 a1 a2 b0 b1 b2) h
theorem o_neq42 {ρ : Operand → Value} {w : World} {K : Value → World → Prop} {dst : Option Tmp} {T : TypeId} {pos : String} {after : Array Edge} {g : Option (Nat × Bool)} {u : TypeId} {x y : Operand} (a0 : Int) (a1 : Int) (a2 : List UInt8) (b0 : Int) (b1 : Int) (b2 : List UInt8) (hx : ρ x = .agg #[(.int .i64 a0), (.int .i64 a1), (S a2)]) (hy : ρ y = .agg #[(.int .i64 b0), (.int .i64 b1), (S b2)]) (h : K (.bool (!(eqv42 a0 a1 a2 b0 b1 b2))) w) :
  OK Tryz.prog ⟨dst, .binOp .neq 42 x y u, T, pos, after, g⟩ ρ w K :=
 o_nex hx hy (run_eqGuard_agg w _ _ _ _ _ _ (by kernel_rfl)) rfl (eqT42 (9998) w a0 a1 a2 b0 b1 b2) h
theorem eqv42_iff (a0 : Int) (a1 : Int) (a2 : List UInt8) (b0 : Int) (b1 : Int) (b2 : List UInt8) : eqv42 a0 a1 a2 b0 b1 b2 = true ↔ a0 = b0 ∧ a1 = b1 ∧ a2 = b2 := by
 unfold eqv42; simp
def eqv23 (a0 : Int) (a1 : Int) (a2 : Int) (a3 : Int) (a4 : Int) (b0 : Int) (b1 : Int) (b2 : Int) (b3 : Int) (b4 : Int) : Bool := (decide (a0 = b0) && (decide (a1 = b1) && (decide (a2 = b2) && (decide (a3 = b3) && (decide (a4 = b4) && true)))))
theorem eqT23 (d : Nat) (w : World) (a0 : Int) (a1 : Int) (a2 : Int) (a3 : Int) (a4 : Int) (b0 : Int) (b1 : Int) (b2 : Int) (b3 : Int) (b4 : Int) : (Op.equalIn (d + 2) 23 (.agg #[(.int .i64 a0), (.int .i64 a1), (.int .i64 a2), (.int .i64 a3), (.int .i64 a4)]) (.agg #[(.int .i64 b0), (.int .i64 b1), (.int .i64 b2), (.int .i64 b3), (.int .i64 b4)])).run Tryz.prog w = .ok (eqv23 a0 a1 a2 a3 a4 b0 b1 b2 b3 b4) w := by
 rw [run_equalIn_struct w _ 23 _ _ (by kernel_rfl) (by kernel_rfl)]
 refine eqC_fields (m := [(3, 0, false), (3, 1, false), (3, 2, false), (3, 3, false), (3, 4, false)]) (by kernel_rfl) fun l hl => ?_
 obtain ⟨f0, l0, rfl, h0, hl⟩ := List.map_eq_cons_iff.1 hl
 refine eqC_cons (ft := 3) (fo := 0) (a := (.int .i64 a0)) (b := (.int .i64 b0)) h0 (part1 Tryz.underlying3 rfl (by kernel_rfl) w) (part1 Tryz.underlying3 rfl (by kernel_rfl) w) (eq_int Tryz.underlying3 (d + 0) _ _ _ w) ?_
 obtain ⟨f1, l1, rfl, h1, hl⟩ := List.map_eq_cons_iff.1 hl
 refine eqC_cons (ft := 3) (fo := 1) (a := (.int .i64 a1)) (b := (.int .i64 b1)) h1 (part1 Tryz.underlying3 rfl (by kernel_rfl) w) (part1 Tryz.underlying3 rfl (by kernel_rfl) w) (eq_int Tryz.underlying3 (d + 0) _ _ _ w) ?_
 obtain ⟨f2, l2, rfl, h2, hl⟩ := List.map_eq_cons_iff.1 hl
 refine eqC_cons (ft := 3) (fo := 2) (a := (.int .i64 a2)) (b := (.int .i64 b2)) h2 (part1 Tryz.underlying3 rfl (by kernel_rfl) w) (part1 Tryz.underlying3 rfl (by kernel_rfl) w) (eq_int Tryz.underlying3 (d + 0) _ _ _ w) ?_
 obtain ⟨f3, l3, rfl, h3, hl⟩ := List.map_eq_cons_iff.1 hl
 refine eqC_cons (ft := 3) (fo := 3) (a := (.int .i64 a3)) (b := (.int .i64 b3)) h3 (part1 Tryz.underlying3 rfl (by kernel_rfl) w) (part1 Tryz.underlying3 rfl (by kernel_rfl) w) (eq_int Tryz.underlying3 (d + 0) _ _ _ w) ?_
 obtain ⟨f4, l4, rfl, h4, hl⟩ := List.map_eq_cons_iff.1 hl
 refine eqC_cons (ft := 3) (fo := 4) (a := (.int .i64 a4)) (b := (.int .i64 b4)) h4 (part1 Tryz.underlying3 rfl (by kernel_rfl) w) (part1 Tryz.underlying3 rfl (by kernel_rfl) w) (eq_int Tryz.underlying3 (d + 0) _ _ _ w) ?_
 obtain rfl := List.map_eq_nil_iff.1 hl
 exact eqC_nil
theorem o_neq23 {ρ : Operand → Value} {w : World} {K : Value → World → Prop} {dst : Option Tmp} {T : TypeId} {pos : String} {after : Array Edge} {g : Option (Nat × Bool)} {u : TypeId} {x y : Operand} (a0 : Int) (a1 : Int) (a2 : Int) (a3 : Int) (a4 : Int) (b0 : Int) (b1 : Int) (b2 : Int) (b3 : Int) (b4 : Int) (hx : ρ x = .agg #[(.int .i64 a0), (.int .i64 a1), (.int .i64 a2), (.int .i64 a3), (.int .i64 a4)]) (hy : ρ y = .agg #[(.int .i64 b0), (.int .i64 b1), (.int .i64 b2), (.int .i64 b3), (.int .i64 b4)]) (h : K (.bool (!(eqv23 a0 a1 a2 a3 a4 b0 b1 b2 b3 b4))) w) :
  OK Tryz.prog ⟨dst, .binOp .neq 23 x y u, T, pos, after, g⟩ ρ w K :=
 o_nex hx hy (run_eqGuard_agg w _ _ _ _ _ _ (by kernel_rfl)) rfl (eqT23 (9998) w a0 a1 a2 a3 a4 b0 b1 b2 b3 b4) h
theorem eqv23_iff (a0 : Int) (a1 : Int) (a2 : Int) (a3 : Int) (a4 : Int) (b0 : Int) (b1 : Int) (b2 : Int) (b3 : Int) (b4 : Int) : eqv23 a0 a1 a2 a3 a4 b0 b1 b2 b3 b4 = true ↔ a0 = b0 ∧ a1 = b1 ∧ a2 = b2 ∧ a3 = b3 ∧ a4 = b4 := by
 unfold eqv23; simp
end Go.Q
namespace Go.Q
open Go.Proofs
set_option linter.unusedVariables false
set_option maxRecDepth 100000
attribute [local irreducible] wpList OK Code.wp
set_option maxHeartbeats 4000000 in
theorem awake8_c {E w : World} {R : List Hp} (hH : Has E w [R]) (hg : CellsAt R 0 0 nibV) :
  Calls Tryz.prog 11 #[] w fun e w' => e = .returned (.bool true) ∧ Has E w' [R] := by
 refine zs (args := []) Tryz.func11 rfl Tryz.ntmps11 (by simp) ?_
 refine wp_seq_k fun K1 hK1 => ?_
 refine zb ?_
 refine za (ze (v := (.bool false)) rfl ?_)
 refine zf ?_
 refine zc (hK1 _ _ ?_)
 refine wp_seq_k fun K2 hK2 => ?_
 refine zb ?_
 refine za (zk (vs := #[(.pointer none), (.int .i64 6)]) ca12 rfl (zI rfl rfl) (new_nil hH.all (n := 6) (by decide)) ?_)
 rintro _ w9 ⟨db3, pb4, sg5, rfl, hd6, hX7⟩
 refine ⟨_, rfl, ?_⟩
 have hH8 : Has E w9 [sg5, [Hp.one pb4 (.cells #[(.bool (Pw.mk false false 0 0).off), (.bool (Pw.mk false false 0 0).armed), (.int .i64 (Pw.mk false false 0 0).left), (.int .i64 (Pw.mk false false 0 0).uses)] 145 (0, 0))], R] := hX7.of_all2
 have hH10 : Has E w9 [sg5, [Hp.one pb4 (.cells #[(.bool s8d0.p.off), (.bool s8d0.p.armed), (.int .i64 s8d0.p.left), (.int .i64 s8d0.p.uses)] 145 (0, 0))], R] := hH8
 have hd11 : DevAt pb4 sg5 db3 s8d0.la s8d0.lo := hd6
 refine za (ze (v := (.pointer (some ⟨db3, 0, none⟩))) rfl ?_)
 refine zf ?_
 refine zc (hK2 _ _ ?_)
 refine wp_seq_k fun K12 hK12 => ?_
 refine zb ?_
 refine za (zd (v := (.pointer (some ⟨db3, 0, none⟩))) rfl ?_)
 refine za (zk (vs := #[(.pointer (some ⟨db3, 0, none⟩))]) ca31 rfl (zF rfl) (sformat_c (d := s8d0) ((hH10.front 1 rfl).front 1 rfl).all2 hd11 Few.new (by omega) (LoOk.nil _) (by rw [s8_n.1]; decide) (by rw [s8_n.1]; decide) s8_on.1 (hg.mono (zh 0 rfl)) s8_f) ?_)
 rintro _ w21 ⟨sb13, ab14, sg15, ss16, rfl, hd17, hs18, hX19⟩
 refine ⟨_, rfl, ?_⟩
 have hH20 : Has E w21 [ss16, [Hp.one ab14 (.cells #[(.pointer (some ⟨db3, 0, none⟩)), (.int .i64 2), (.int .i64 (((s8d0.la.length : Nat) : Int) - 2))] 265 (0, 0))], sg15, [Hp.one pb4 (.cells #[(.bool ((fmS s8d0).2.2).p.off), (.bool ((fmS s8d0).2.2).p.armed), (.int .i64 ((fmS s8d0).2.2).p.left), (.int .i64 ((fmS s8d0).2.2).p.uses)] 145 (0, 0))], R] := hX19.of_all4
 have hH22 : Has E w21 [ss16, [Hp.one ab14 (.cells #[(.pointer (some ⟨db3, 0, none⟩)), (.int .i64 2), (.int .i64 4)] 265 (0, 0))], sg15, [Hp.one pb4 (.cells #[(.bool ((fmS s8d0).2.2).p.off), (.bool ((fmS s8d0).2.2).p.armed), (.int .i64 ((fmS s8d0).2.2).p.left), (.int .i64 ((fmS s8d0).2.2).p.uses)] 145 (0, 0))], R] := by have h_ := hH20; rw [show ((s8d0.la.length : Nat) : Int) - 2 = 4 from by rw [s8_n.1]; rfl] at h_; exact h_
 have hH23 : Has E w21 [ss16, [Hp.one ab14 (.cells #[(.pointer (some ⟨db3, 0, none⟩)), (.int .i64 2), (.int .i64 4)] 265 (0, 0))], sg15, [Hp.one pb4 (.cells #[(.bool s8d1.p.off), (.bool s8d1.p.armed), (.int .i64 s8d1.p.left), (.int .i64 s8d1.p.uses)] 145 (0, 0))], R] := hH22
 have hd24 : DevAt pb4 sg15 db3 s8d1.la s8d1.lo := hd17
 have hd25 : StmAt db3 ab14 sb13 ss16 s8v1 := hs18
 refine za (zd (v := (.tuple #[(.pointer (some ⟨sb13, 0, none⟩)), (.int .i64 (0 : Int))])) rfl ?_)
 refine za (zp (v := (.pointer (some ⟨sb13, 0, none⟩))) rfl rfl ?_)
 refine za (zp (v := (.int .i64 (0 : Int))) rfl rfl ?_)
 refine za (ze (v := (.pointer (some ⟨sb13, 0, none⟩))) rfl ?_)
 refine za (ze (v := (.int .i64 (0 : Int))) rfl ?_)
 refine zf ?_
 refine zc (hK12 _ _ ?_)
 refine wp_seq_k fun K26 hK26 => ?_
 refine zb ?_
 refine za (zd (v := (.pointer (some ⟨sb13, 0, none⟩))) rfl ?_)
 refine za (zu (ps := #[(0, (S [97]))]) (cells := #[(S [97])]) Tryz.underlying46 ti9 (by decide) (parts1 rfl) (by kernel_rfl) hH23 fun b27 w28 hH29 => ?_)
 refine za (zk (vs := #[(.pointer (some ⟨sb13, 0, none⟩)), (.int .i64 1), (.slice (some ⟨b27, 0, none⟩) 1 1)]) ca30 rfl (args3 rfl rfl rfl) (sappend_c (db := db3) (ab := ab14) (v := s8v1) (g := 1) (ds := [[97]]) (n := 4) (hH29.front 1 rfl).all1 hd25 ((zW (f := sV) (l := [[97]]) rfl rfl (by simp)).mono (zh 0 rfl)) ((CellsAt.one rfl).mono (zh 1 rfl)) s8_k1 (by decide) (by decide)) ?_)
 rintro _ w34 ⟨sg30, rfl, hd31, hX32⟩
 refine ⟨_, rfl, ?_⟩
 have hH33 : Has E w34 [sg30, [Hp.one b27 (.cells #[(S [97])] 9 (0, 0))], [Hp.one ab14 (.cells #[(.pointer (some ⟨db3, 0, none⟩)), (.int .i64 2), (.int .i64 4)] 265 (0, 0))], sg15, [Hp.one pb4 (.cells #[(.bool s8d1.p.off), (.bool s8d1.p.armed), (.int .i64 s8d1.p.left), (.int .i64 s8d1.p.uses)] 145 (0, 0))], R] := hX32.of_all1
 have hd35 : StmAt db3 ab14 sb13 sg30 s8v2 := hd31
 refine za (ze (v := (.int .i64 (apE 4 s8v1 1 [[97]].flatten))) rfl ?_)
 refine zf ?_
 refine zc (hK26 _ _ ?_)
 refine wp_seq_k fun K36 hK36 => ?_
 refine zb ?_
 refine za (zd (v := (.pointer (some ⟨sb13, 0, none⟩))) rfl ?_)
 refine za (zu (ps := #[(0, (S [98])), (1, (S [99]))]) (cells := #[(S [98]), (S [99])]) Tryz.underlying46 ti9 (by decide) (parts2 rfl rfl) (by kernel_rfl) hH33 fun b37 w38 hH39 => ?_)
 refine za (zk (vs := #[(.pointer (some ⟨sb13, 0, none⟩)), (.int .i64 2), (.slice (some ⟨b37, 0, none⟩) 2 2)]) ca30 rfl (args3 rfl rfl rfl) (sappend_c (db := db3) (ab := ab14) (v := s8v2) (g := 2) (ds := [[98], [99]]) (n := 4) (hH39.front 1 rfl).all1 hd35 ((zW (f := sV) (l := [[98], [99]]) rfl rfl (by simp)).mono (zh 0 rfl)) ((CellsAt.one rfl).mono (zh 2 rfl)) s8_k2 (by decide) (by decide)) ?_)
 rintro _ w44 ⟨sg40, rfl, hd41, hX42⟩
 refine ⟨_, rfl, ?_⟩
 have hH43 : Has E w44 [sg40, [Hp.one b37 (.cells #[(S [98]), (S [99])] 9 (0, 0))], [Hp.one b27 (.cells #[(S [97])] 9 (0, 0))], [Hp.one ab14 (.cells #[(.pointer (some ⟨db3, 0, none⟩)), (.int .i64 2), (.int .i64 4)] 265 (0, 0))], sg15, [Hp.one pb4 (.cells #[(.bool s8d1.p.off), (.bool s8d1.p.armed), (.int .i64 s8d1.p.left), (.int .i64 s8d1.p.uses)] 145 (0, 0))], R] := hX42.of_all1
 have hd45 : StmAt db3 ab14 sb13 sg40 s8v3 := hd41
 refine za (ze (v := (.int .i64 (apE 4 s8v2 2 [[98], [99]].flatten))) rfl ?_)
 refine zf ?_
 refine zc (hK36 _ _ ?_)
 refine wp_seq_k fun K46 hK46 => ?_
 refine zb ?_
 refine za (zd (v := (.pointer (some ⟨sb13, 0, none⟩))) rfl ?_)
 refine za (zk (vs := #[(.pointer (some ⟨sb13, 0, none⟩)), (.int .i64 2)]) ca23 rfl (zI rfl rfl) (sflush_c (d := s8d1) (v := s8v3) (n := 4) (((hH43.front 3 rfl).front 5 rfl).front 5 rfl).all4 hd24 hd45 s8_f1 (by omega) s8_lk1 (by rw [s8_n.2.1]; decide) s8_64.2.1 (by rw [s8_n.2.1]; rfl) s8_k3 (hg.mono (zh 2 rfl)) (mark := 2)) ?_)
 rintro _ w53 ⟨sg47, ss49, rfl, hd48, hs50, hX51⟩
 refine ⟨_, rfl, ?_⟩
 have hH52 : Has E w53 [sg47, [Hp.one pb4 (.cells #[(.bool ((flS 4 s8d1 s8v3 2).2.1).p.off), (.bool ((flS 4 s8d1 s8v3 2).2.1).p.armed), (.int .i64 ((flS 4 s8d1 s8v3 2).2.1).p.left), (.int .i64 ((flS 4 s8d1 s8v3 2).2.1).p.uses)] 145 (0, 0))], [Hp.one ab14 (.cells #[(.pointer (some ⟨db3, 0, none⟩)), (.int .i64 2), (.int .i64 4)] 265 (0, 0))], ss49, [Hp.one b37 (.cells #[(S [98]), (S [99])] 9 (0, 0))], [Hp.one b27 (.cells #[(S [97])] 9 (0, 0))], R] := hX51.of_all4
 have hH54 : Has E w53 [sg47, [Hp.one pb4 (.cells #[(.bool s8d2.p.off), (.bool s8d2.p.armed), (.int .i64 s8d2.p.left), (.int .i64 s8d2.p.uses)] 145 (0, 0))], [Hp.one ab14 (.cells #[(.pointer (some ⟨db3, 0, none⟩)), (.int .i64 2), (.int .i64 4)] 265 (0, 0))], ss49, [Hp.one b37 (.cells #[(S [98]), (S [99])] 9 (0, 0))], [Hp.one b27 (.cells #[(S [97])] 9 (0, 0))], R] := hH52
 have hd55 : DevAt pb4 sg47 db3 s8d2.la s8d2.lo := hd48
 have hd56 : StmAt db3 ab14 sb13 ss49 s8v4 := hs50
 refine za (ze (v := (.int .i64 ((flS 4 s8d1 s8v3 2).1))) rfl ?_)
 refine zf ?_
 refine zc (hK46 _ _ ?_)
 refine wp_seq_k fun K57 hK57 => ?_
 refine zb ?_
 refine za (zd (v := (.pointer (some ⟨sb13, 0, none⟩))) rfl ?_)
 refine za (zu (ps := #[(0, (S [100]))]) (cells := #[(S [100])]) Tryz.underlying46 ti9 (by decide) (parts1 rfl) (by kernel_rfl) hH54 fun b58 w59 hH60 => ?_)
 refine za (zk (vs := #[(.pointer (some ⟨sb13, 0, none⟩)), (.int .i64 5), (.slice (some ⟨b58, 0, none⟩) 1 1)]) ca30 rfl (args3 rfl rfl rfl) (sappend_c (db := db3) (ab := ab14) (v := s8v4) (g := 5) (ds := [[100]]) (n := 4) (hH60.front 4 rfl).all1 hd56 ((zW (f := sV) (l := [[100]]) rfl rfl (by simp)).mono (zh 0 rfl)) ((CellsAt.one rfl).mono (zh 3 rfl)) s8_k4 (by decide) (by decide)) ?_)
 rintro _ w65 ⟨sg61, rfl, hd62, hX63⟩
 refine ⟨_, rfl, ?_⟩
 have hH64 : Has E w65 [sg61, [Hp.one b58 (.cells #[(S [100])] 9 (0, 0))], sg47, [Hp.one pb4 (.cells #[(.bool s8d2.p.off), (.bool s8d2.p.armed), (.int .i64 s8d2.p.left), (.int .i64 s8d2.p.uses)] 145 (0, 0))], [Hp.one ab14 (.cells #[(.pointer (some ⟨db3, 0, none⟩)), (.int .i64 2), (.int .i64 4)] 265 (0, 0))], [Hp.one b37 (.cells #[(S [98]), (S [99])] 9 (0, 0))], [Hp.one b27 (.cells #[(S [97])] 9 (0, 0))], R] := hX63.of_all1
 have hd66 : StmAt db3 ab14 sb13 sg61 s8v5 := hd62
 refine zf ?_
 refine zc (hK57 _ _ ?_)
 refine wp_seq_k fun K67 hK67 => ?_
 refine zb ?_
 refine za (zd (v := (.pointer (some ⟨db3, 0, none⟩))) rfl ?_)
 refine za (zk (vs := #[(.pointer (some ⟨db3, 0, none⟩)), (.slice none 0 0)]) ca26 rfl (zI rfl rfl) (dv_cr (d := s8d2) ((hH64.front 3 rfl).front 3 rfl).all2 hd55 s8_lk2 (keep := ([] : List Int)) (sl_nil 1)) ?_)
 rintro _ w72 ⟨sg68, rfl, hd69, hX70⟩
 refine ⟨_, rfl, ?_⟩
 have hH71 : Has E w72 [sg68, [Hp.one pb4 (.cells #[(.bool (s8d2.cr ([] : List Int)).p.off), (.bool (s8d2.cr ([] : List Int)).p.armed), (.int .i64 (s8d2.cr ([] : List Int)).p.left), (.int .i64 (s8d2.cr ([] : List Int)).p.uses)] 145 (0, 0))], sg61, [Hp.one b58 (.cells #[(S [100])] 9 (0, 0))], [Hp.one ab14 (.cells #[(.pointer (some ⟨db3, 0, none⟩)), (.int .i64 2), (.int .i64 4)] 265 (0, 0))], [Hp.one b37 (.cells #[(S [98]), (S [99])] 9 (0, 0))], [Hp.one b27 (.cells #[(S [97])] 9 (0, 0))], R] := hX70.of_all2
 have hH73 : Has E w72 [sg68, [Hp.one pb4 (.cells #[(.bool s8d3.p.off), (.bool s8d3.p.armed), (.int .i64 s8d3.p.left), (.int .i64 s8d3.p.uses)] 145 (0, 0))], sg61, [Hp.one b58 (.cells #[(S [100])] 9 (0, 0))], [Hp.one ab14 (.cells #[(.pointer (some ⟨db3, 0, none⟩)), (.int .i64 2), (.int .i64 4)] 265 (0, 0))], [Hp.one b37 (.cells #[(S [98]), (S [99])] 9 (0, 0))], [Hp.one b27 (.cells #[(S [97])] 9 (0, 0))], R] := hH71
 have hd74 : DevAt pb4 sg68 db3 s8d3.la s8d3.lo := hd69
 refine zf ?_
 refine zc (hK67 _ _ ?_)
 refine wp_seq_k fun K75 hK75 => ?_
 refine zb ?_
 refine za (zd (v := (.pointer (some ⟨db3, 0, none⟩))) rfl ?_)
 refine za (zk (vs := #[(.pointer (some ⟨db3, 0, none⟩))]) ca16 rfl (zF rfl) (sopen_ok (d := s8d3) ((hH73.front 1 rfl).front 1 rfl).all2 hd74 (by rw [s8_n.2.2.2]; decide) (by rw [s8_n.2.2.2]; decide) s8_on.2 s8_64.2.2 rfl (hg.mono (zh 5 rfl)) (show opE s8d3 (((s8d3.la.length : Nat) : Int) - 2) = 0 by rw [s8_n.2.2.2]; exact s8_o)) ?_)
 rintro _ w84 ⟨sb76, ab77, sg78, ss79, rfl, hd80, hs81, hX82⟩
 refine ⟨_, rfl, ?_⟩
 have hH83 : Has E w84 [ss79, [Hp.one ab77 (.cells #[(.pointer (some ⟨db3, 0, none⟩)), (.int .i64 2), (.int .i64 (((s8d3.la.length : Nat) : Int) - 2))] 265 (0, 0))], sg78, [Hp.one pb4 (.cells #[(.bool s8d3.p.off), (.bool s8d3.p.armed), (.int .i64 s8d3.p.left), (.int .i64 s8d3.p.uses)] 145 (0, 0))], sg61, [Hp.one b58 (.cells #[(S [100])] 9 (0, 0))], [Hp.one ab14 (.cells #[(.pointer (some ⟨db3, 0, none⟩)), (.int .i64 2), (.int .i64 4)] 265 (0, 0))], [Hp.one b37 (.cells #[(S [98]), (S [99])] 9 (0, 0))], [Hp.one b27 (.cells #[(S [97])] 9 (0, 0))], R] := hX82.of_all4
 have hH85 : Has E w84 [ss79, [Hp.one ab77 (.cells #[(.pointer (some ⟨db3, 0, none⟩)), (.int .i64 2), (.int .i64 4)] 265 (0, 0))], sg78, [Hp.one pb4 (.cells #[(.bool s8d3.p.off), (.bool s8d3.p.armed), (.int .i64 s8d3.p.left), (.int .i64 s8d3.p.uses)] 145 (0, 0))], sg61, [Hp.one b58 (.cells #[(S [100])] 9 (0, 0))], [Hp.one ab14 (.cells #[(.pointer (some ⟨db3, 0, none⟩)), (.int .i64 2), (.int .i64 4)] 265 (0, 0))], [Hp.one b37 (.cells #[(S [98]), (S [99])] 9 (0, 0))], [Hp.one b27 (.cells #[(S [97])] 9 (0, 0))], R] := by have h_ := hH83; rw [show ((s8d3.la.length : Nat) : Int) - 2 = 4 from by rw [s8_n.2.2.2]; rfl] at h_; exact h_
 have hs86 : StmAt db3 ab77 sb76 ss79 (opS s8d3 4) := by have h_ := hs81; rw [show ((s8d3.la.length : Nat) : Int) - 2 = 4 from by rw [s8_n.2.2.2]; rfl] at h_; exact h_
 have hd87 : StmAt db3 ab77 sb76 ss79 s8v6 := hs86
 refine za (zd (v := (.tuple #[(.pointer (some ⟨sb76, 0, none⟩)), (.int .i64 (0 : Int))])) rfl ?_)
 refine za (zp (v := (.pointer (some ⟨sb76, 0, none⟩))) rfl rfl ?_)
 refine za (zp (v := (.int .i64 (0 : Int))) rfl rfl ?_)
 refine za (ze (v := (.pointer (some ⟨sb76, 0, none⟩))) rfl ?_)
 refine za (ze (v := (.int .i64 (0 : Int))) rfl ?_)
 refine zf ?_
 refine zc (hK75 _ _ ?_)
 refine wp_seq_k fun K88 hK88 => ?_
 refine zb ?_
 refine za (zd (v := (.pointer (some ⟨sb76, 0, none⟩))) rfl ?_)
 refine za (zk (vs := #[(.pointer (some ⟨sb76, 0, none⟩)), (.int .i64 0)]) ca17 rfl (zI rfl rfl) (sentries_c (v := s8v6) (db := db3) (ab := ab77) (g := 0) (n := 4) hH85.all (hd87.rd.mono (zh 0 rfl)) s8_k6) ?_)
 rintro _ w94 ⟨v89, s90, rfl, ho91, hX92⟩
 refine ⟨_, rfl, ?_⟩
 have hH93 : Has E w94 [s90, ss79, [Hp.one ab77 (.cells #[(.pointer (some ⟨db3, 0, none⟩)), (.int .i64 2), (.int .i64 4)] 265 (0, 0))], sg78, [Hp.one pb4 (.cells #[(.bool s8d3.p.off), (.bool s8d3.p.armed), (.int .i64 s8d3.p.left), (.int .i64 s8d3.p.uses)] 145 (0, 0))], sg61, [Hp.one b58 (.cells #[(S [100])] 9 (0, 0))], [Hp.one ab14 (.cells #[(.pointer (some ⟨db3, 0, none⟩)), (.int .i64 2), (.int .i64 4)] 265 (0, 0))], [Hp.one b37 (.cells #[(S [98]), (S [99])] 9 (0, 0))], [Hp.one b27 (.cells #[(S [97])] 9 (0, 0))], R] := hX92.of_all1
 refine za (ze (v := v89) rfl ?_)
 refine zf ?_
 refine zc (hK88 _ _ ?_)
 refine wp_seq_k fun K95 hK95 => ?_
 refine zb ?_
 refine za (zd (v := (.int .i64 (0 : Int))) rfl ?_)
 refine za (yd (a := (0 : Int)) (b := 0) rfl rfl ?_)
 refine za (zd (v := (.bool (decide ((0 : Int) = 0)))) rfl ?_)
 by_cases h96 : (0 : Int) = 0
 ·
  refine zn 38 rfl (cT h96) (zd (v := (.int .i64 (apE 4 s8v1 1 [[97]].flatten))) rfl ?_)
  refine zn 38 rfl (cT h96) (yd (a := (apE 4 s8v1 1 [[97]].flatten)) (b := 0) rfl rfl ?_)
  refine za (zo (u := (.bool (decide ((apE 4 s8v1 1 [[97]].flatten) = 0)))) ((rfl : _ = _).trans (cT h96)) rfl ?_)
  refine za (zd (v := (.bool (decide ((apE 4 s8v1 1 [[97]].flatten) = 0)))) rfl ?_)
  by_cases h97 : (apE 4 s8v1 1 [[97]].flatten) = 0
  ·
   refine zn 42 rfl (cT h97) (zd (v := (.int .i64 (apE 4 s8v2 2 [[98], [99]].flatten))) rfl ?_)
   refine zn 42 rfl (cT h97) (yd (a := (apE 4 s8v2 2 [[98], [99]].flatten)) (b := 0) rfl rfl ?_)
   refine za (zo (u := (.bool (decide ((apE 4 s8v2 2 [[98], [99]].flatten) = 0)))) ((rfl : _ = _).trans (cT h97)) rfl ?_)
   refine za (zd (v := (.bool (decide ((apE 4 s8v2 2 [[98], [99]].flatten) = 0)))) rfl ?_)
   by_cases h98 : (apE 4 s8v2 2 [[98], [99]].flatten) = 0
   ·
    refine zn 46 rfl (cT h98) (zd (v := (.int .i64 ((flS 4 s8d1 s8v3 2).1))) rfl ?_)
    refine zn 46 rfl (cT h98) (yd (a := (flS 4 s8d1 s8v3 2).1) (b := 0) rfl rfl ?_)
    refine za (zo (u := (.bool (decide ((flS 4 s8d1 s8v3 2).1 = 0)))) ((rfl : _ = _).trans (cT h98)) rfl ?_)
    refine za (zd (v := (.bool (decide ((flS 4 s8d1 s8v3 2).1 = 0)))) rfl ?_)
    by_cases h99 : (flS 4 s8d1 s8v3 2).1 = 0
    ·
     refine zn 50 rfl (cT h99) (zd (v := (.int .i64 (0 : Int))) rfl ?_)
     refine zn 50 rfl (cT h99) (yd (a := (0 : Int)) (b := 0) rfl rfl ?_)
     refine za (zo (u := (.bool (decide ((0 : Int) = 0)))) ((rfl : _ = _).trans (cT h99)) rfl ?_)
     refine za (zd (v := (.bool (decide ((0 : Int) = 0)))) rfl ?_)
     refine zn 54 rfl (cT h96) (zd (v := v89) rfl ?_)
     refine zn 54 rfl (cT h96) (zY Tryz.underlying37 rfl ho91.sl ?_)
     refine zn 54 rfl (cT h96) (yd (a := (((s8v6.l.drop (posE s8v6.l 0).toNat).length : Nat) : Int)) (b := 2) rfl rfl ?_)
     refine za (zo (u := (.bool (decide ((((s8v6.l.drop (posE s8v6.l 0).toNat).length : Nat) : Int) = 2)))) ((rfl : _ = _).trans (cT h96)) rfl ?_)
     refine za (zd (v := (.bool (decide ((((s8v6.l.drop (posE s8v6.l 0).toNat).length : Nat) : Int) = 2)))) rfl ?_)
     by_cases h100 : (((s8v6.l.drop (posE s8v6.l 0).toNat).length : Nat) : Int) = 2
     ·
      refine zn 59 rfl (cT h100) (zd (v := v89) rfl ?_)
      obtain ⟨x104, hx105⟩ : ∃ x_, (s8v6.l.drop (posE s8v6.l 0).toNat)[((1 : Int)).toNat]? = some x_ := zM (by rw [s8_l]; decide)
      refine zn 59 rfl (cT h100) (o_indexF enC_len Tryz.underlying37 ti42 rfl ho91.sl rfl rfl (by omega) hx105 fun b101 o102 hc103 => ?_)
      refine zn 59 rfl (cT h100) (zC (cs := [(.int .i64 x104.gsn), (.int .i64 x104.at_), (S x104.data)]) Tryz.underlying42 rfl ti42 rfl hH93 (zh 0 rfl) hc103 ?_)
      refine zn 59 rfl (cT h100) (zK (v := (.agg #[(.int .i64 2), (.int .i64 26), (S [98, 99])])) (fun _ => by kernel_rfl) ?_)
      refine zn 59 rfl (cT h100) (o_eql42 x104.gsn x104.at_ x104.data (2 : Int) (26 : Int) [98, 99] rfl rfl ?_)
      refine za (zo (u := (.bool (eqv42 x104.gsn x104.at_ x104.data (2 : Int) (26 : Int) [98, 99]))) ((rfl : _ = _).trans (cT h100)) rfl ?_)
      refine za (zd (v := (.bool (eqv42 x104.gsn x104.at_ x104.data (2 : Int) (26 : Int) [98, 99]))) rfl ?_)
      rcases Bool.eq_false_or_eq_true (eqv42 x104.gsn x104.at_ x104.data (2 : Int) (26 : Int) [98, 99]) with h106 | h106
      ·
       refine zn 66 rfl (congrArg Value.bool h106) (zd (v := (.pointer (some ⟨sb76, 0, none⟩))) rfl ?_)
       refine zn 66 rfl (congrArg Value.bool h106) (zk (vs := #[(.pointer (some ⟨sb76, 0, none⟩))]) ca29 rfl (zF rfl) (slast_c (v := s8v6) (db := db3) (ab := ab77) (n := 4) hH93.all (hd87.rd.mono (zh 1 rfl)) s8_k6) ?_)
       rintro _ w109 ⟨rfl, hX107⟩
       refine ⟨_, rfl, ?_⟩
       have hH108 := hX107.of_all
       refine zn 66 rfl (congrArg Value.bool h106) (yd (a := (lastV s8v6)) (b := 2) rfl rfl ?_)
       refine za (zo (u := (.bool (decide ((lastV s8v6) = 2)))) ((rfl : _ = _).trans (congrArg Value.bool h106)) rfl ?_)
       refine za (ze (v := (.bool (decide ((lastV s8v6) = 2)))) rfl ?_)
       refine zf ?_
       refine zc (hK95 _ _ ?_)
       refine wp_ret ?_
       refine zq Tryz.results11  (v := (.bool (decide ((lastV s8v6) = 2)))) rfl ?_
       have hH110 : Has E w109 [R] := (hH108.front 10 rfl).first 1 rfl
       exact ⟨by first | rfl | (rw [decide_eq_true (by first | decide | exact s8_t)]), hH110⟩
      ·
       exact absurd h106 (by have hx_ := hx105; rw [s8_l] at hx_; have e_ : _ = _ := Option.some.inj hx_; rw [← e_]; decide)
     ·
      exact absurd (by rw [s8_l]; rfl) h100
    ·
     exact absurd s8_c h99
   ·
    exact absurd (show _ = _ from s8_b) h98
  ·
   exact absurd (show _ = _ from s8_a) h97
 ·
  exact absurd h96 (by decide)
end Go.Q
namespace Go.Q
open Go.Proofs
set_option linter.unusedVariables false
set_option maxRecDepth 100000
attribute [local irreducible] wpList OK Code.wp
set_option maxHeartbeats 4000000 in
theorem refPut_c {E w : World} {R : List Hp} (hH : Has E w [R]) (m : Nat) (hm : 1 ≤ m ∧ m ≤ 8) (n : Int) (hn : -9223372036854775808 ≤ n ∧ n ≤ 9223372036854775807) :
  Calls Tryz.prog 326 #[(.int .i64 (m : Int)), (.int .i64 n)] w fun e w' => ∃ t : List UInt8, e = .returned (.tuple #[S t, .bool (fitsS n m)]) ∧ t.length = m ∧ (fitsS n m = true → t = beFrom n m) ∧ Has E w' [R] := by
 refine zs (args := [(.int .i64 (m : Int)), (.int .i64 n)]) Tryz.func326 rfl Tryz.ntmps326 (by simp) ?_
 refine wp_seq_k fun K1 hK1 => ?_
 refine zb ?_
 refine za (ze (v := (S ([] : List UInt8))) rfl ?_)
 refine za (ze (v := (.bool false)) rfl ?_)
 refine zf ?_
 refine zc (hK1 _ _ ?_)
 refine wp_seq_k fun K2 hK2 => ?_
 refine zb ?_
 refine za (ze (v := (.slice none 0 0)) rfl ?_)
 refine zf ?_
 refine zc (hK2 _ _ ?_)
 refine wp_seq_k fun K3 hK3 => ?_
 refine wp_seq_k fun K4 hK4 => ?_
 refine zb ?_
 refine za (ze (v := (.int .i64 0)) rfl ?_)
 refine zf ?_
 refine zc (hK4 _ _ ?_)
 refine wp_block ?_
 let I6 : Nat → (Nat → Value) → World → Prop := fun n__ r__ w__ => ∃ (k : Nat) (vb : Value) (hs : List Hp) (lb : List UInt8), n__ = m - k ∧ Has E w__ [hs, R] ∧ (k ≤ m) ∧ (Own 5 1 vb lb.length (lb.map bV) hs) ∧ (lb = List.replicate k 0) ∧ (lb.length = k) ∧ r__ 0 = (.int .i64 (m : Int)) ∧ r__ 1 = (.int .i64 n) ∧ r__ 4 = (S ([] : List UInt8)) ∧ r__ 5 = (.bool false) ∧ r__ 6 = vb ∧ r__ 7 = (.int .i64 (k : Int))
 have hH7 : Has E w [[], R] := (Has.nil hH).first 2 rfl
 refine zT I6 _ ⟨0, (.slice none 0 0), [], [], rfl, hH7, Nat.zero_le _, Own.nil 5 1, rfl, rfl, rfl, rfl, rfl, rfl, rfl, rfl⟩ ?_
 rintro n_ r10 w8 ⟨k, vb, hs, lb, rfl, hH9, hk, hob, hlb, hll, e5_0, e5_1, e5_4, e5_5, e5_6, e5_7⟩
 refine wp_seq_k fun K11 hK11 => ?_
 refine wp_seq_k fun K12 hK12 => ?_
 refine zb ?_
 refine za (zd (v := (.int .i64 (k : Int))) e5_7 ?_)
 refine za (zd (v := (.int .i64 (m : Int))) e5_0 ?_)
 refine za (zL (a := (k : Int)) (b := (m : Int)) rfl rfl ?_)
 refine zf ?_
 refine zc (hK12 _ _ ?_)
 refine zt rfl (fun h13 => ?_) (fun h13 => ?_)
 ·
  refine wp_skip ?_
  refine zc (hK11 _ _ ?_)
  refine wp_seq_k fun K14 hK14 => ?_
  refine wp_block ?_
  refine zb ?_
  refine za (zd (v := vb) e5_6 ?_)
  refine za (zu (ps := #[(0, (.int .u8 0))]) (cells := #[(.int .u8 0)]) Tryz.underlying30 ti5 (by decide) (parts1 rfl) (by kernel_rfl) hH9 fun b15 w16 hH17 => ?_)
  refine za (o_append Tryz.underlying30 ti5 rfl (by decide) rfl hob rfl (zW (f := bV) (l := [(0 : UInt8)]) rfl rfl (by simp)) (hH17.front 1 rfl) (zh 0 rfl) (one_bV _) (by simp; omega) (by simp; omega) fun v18 s19 w21 ho20 hH22 => ?_)
  have ho20 : Own 5 1 v18 (lb ++ [(0 : UInt8)]).length ((lb ++ [(0 : UInt8)]).map bV) s19 := ho20.app
  refine za (ze (v := v18) rfl ?_)
  refine zf ?_
  refine zG ?_
  refine zc (hK14 _ _ ?_)
  refine zb ?_
  refine za (zd (v := (.int .i64 (k : Int))) e5_7 ?_)
  refine za (zH (a := (k : Int)) (b := 1) rfl rfl (w64 (by omega) (by omega)) ?_)
  refine za (ze (v := (.int .i64 ((k : Int) + 1))) rfl ?_)
  refine zf ?_
  have hH23 : Has E w21 [s19, R] := ((hH22.front 2 rfl).front 1 rfl).first 2 rfl
  refine zc ⟨m - (k + 1), _, rfl, ?_, ?_⟩
  · omega
  · exact ⟨(k + 1), v18, s19, (lb ++ [(0 : UInt8)]), rfl, hH23, (by omega), (ho20), (by rw [hlb, List.replicate_succ']), (by simp; omega), e5_0, e5_1, e5_4, e5_5, rfl, rfl⟩
 ·
  refine wp_exit ?_
  refine zx (zx (x_in (?_)))
  refine zc (hK3 _ _ ?_)
  refine wp_seq_k fun K24 hK24 => ?_
  refine wp_seq_k fun K25 hK25 => ?_
  refine zb ?_
  refine za (zd (v := (.int .i64 (m : Int))) e5_0 ?_)
  refine za (o_sub (a := (m : Int)) (b := 1) rfl rfl (w64 (by omega) (by omega)) ?_)
  refine za (ze (v := (.int .i64 ((m : Int) - 1))) rfl ?_)
  refine zf ?_
  refine zc (hK25 _ _ ?_)
  refine wp_block ?_
  let I27 : Nat → (Nat → Value) → World → Prop := fun n__ r__ w__ => ∃ (j : Nat) (i : Int) (y : Int) (hs2 : List Hp) (lc : List UInt8), n__ = j + 1 ∧ Has E w__ [hs2, R] ∧ (j ≤ m) ∧ (i = (j : Int) - 1) ∧ (Own 5 1 vb lc.length (lc.map bV) hs2) ∧ (lc = List.replicate j 0 ++ beFrom n (m - j)) ∧ (0 ≤ n → y = n / ((256 ^ (m - j) : Nat) : Int)) ∧ (n < 0 → j = m ∧ y = n) ∧ (lc.length = m) ∧ (-9223372036854775808 ≤ y ∧ y ≤ 9223372036854775807) ∧ r__ 0 = (.int .i64 (m : Int)) ∧ r__ 1 = (.int .i64 y) ∧ r__ 4 = (S ([] : List UInt8)) ∧ r__ 5 = (.bool false) ∧ r__ 6 = vb ∧ r__ 7 = (.int .i64 (k : Int)) ∧ r__ 8 = (.int .i64 i) ∧ r__ 11 = (.bool (decide ((k : Int) < (m : Int))))
  refine zT I27 _ ⟨m, ((m : Int) - 1), n, hs, lb, rfl, hH9, Nat.le_refl _, rfl, hob, (by rw [hlb, show k = m from by omega, Nat.sub_self]; simp [beFrom]), (by intro _; rw [Nat.sub_self]; simp), fun _ => ⟨rfl, rfl⟩, (by omega), hn, e5_0, e5_1, e5_4, e5_5, e5_6, e5_7, rfl, rfl⟩ ?_
  rintro n_ r30 w28 ⟨j, i, y, hs2, lc, rfl, hH29, hj, hi, hoc, hlc, hy, hneg, hlen, hyr, e26_0, e26_1, e26_4, e26_5, e26_6, e26_7, e26_8, e26_11⟩
  refine wp_seq_k fun K31 hK31 => ?_
  refine wp_seq_k fun K32 hK32 => ?_
  refine zb ?_
  refine za (zd (v := (.int .i64 i)) e26_8 ?_)
  refine za (o_geq (a := i) (b := 0) rfl rfl ?_)
  refine za (zd (v := (.bool (decide (0 ≤ i)))) rfl ?_)
  by_cases h33 : 0 ≤ i
  ·
   refine zn 21 rfl (cT h33) (zd (v := (.int .i64 y)) e26_1 ?_)
   refine zn 21 rfl (cT h33) (o_gtr (a := y) (b := 0) rfl rfl ?_)
   refine za (zo (u := (.bool (decide (0 < y)))) ((rfl : _ = _).trans (cT h33)) rfl ?_)
   refine zf ?_
   refine zc (hK32 _ _ ?_)
   refine zt rfl (fun h34 => ?_) (fun h34 => ?_)
   ·
    refine wp_skip ?_
    refine zc (hK31 _ _ ?_)
    refine wp_seq_k fun K35 hK35 => ?_
    refine wp_block ?_
    refine wp_seq_k fun K36 hK36 => ?_
    refine zb ?_
    refine za (zd (v := vb) e26_6 ?_)
    refine za (zd (v := (.int .i64 i)) e26_8 ?_)
    refine za (zd (v := (.int .i64 y)) e26_1 ?_)
    refine za (o_rem (a := y) (b := 256) (c := y % 256) rfl rfl (by omega) ((Int.tmod_eq_emod_of_nonneg (by first | exact Int.natCast_nonneg _ | omega))) ?_)
    refine za (ya (c := ((by8 (y % 256)).toNat : Int)) Tryz.underlying3 Tryz.underlying5 rfl (wrap_by8 _) ?_)
    refine za (o_ownAddr Tryz.underlying30 ti5 rfl hoc rfl (by omega) (by first | omega | (simp only [List.length_append, List.length_cons, List.length_nil, List.length_set]; omega)) fun b37 ho38 => ?_)
    refine zB (o_ownStore (f := bV) (l := lc) (a := (by8 (y % 256))) ti5 rfl rfl rfl ho38 (by first | omega | (simp only [List.length_append, List.length_cons, List.length_nil, List.length_set]; omega)) hH29 fun s39 w40 ho41 hH42 => ?_)
    refine zf ?_
    refine zc (hK36 _ _ ?_)
    refine zb ?_
    refine za (zd (v := (.int .i64 y)) e26_1 ?_)
    refine za (o_quo (a := y) (b := 256) (c := y / 256) rfl rfl (by omega) (by rw [(Int.tdiv_eq_ediv_of_nonneg (by first | exact Int.natCast_nonneg _ | omega))]; exact w64 (by omega) (by omega)) ?_)
    refine za (ze (v := (.int .i64 (y / 256))) rfl ?_)
    refine zf ?_
    refine zG ?_
    refine zc (hK35 _ _ ?_)
    refine zb ?_
    refine za (zd (v := (.int .i64 i)) e26_8 ?_)
    refine za (o_sub (a := i) (b := 1) rfl rfl (w64 (by omega) (by omega)) ?_)
    refine za (ze (v := (.int .i64 (i - 1))) rfl ?_)
    refine zf ?_
    refine zc ⟨(j - 1) + 1, _, rfl, ?_, ?_⟩
    · omega
    · exact ⟨(j - 1), (i - 1), (y / 256), s39, (lc.set ((i).toNat) (by8 (y % 256))), rfl, hH42, (by omega), (by omega), (ho41), (refput_set hlc (by omega) (by omega) hi hy (by omega)), (refput_div hy (by omega) (by omega)), (by omega), (by simp; omega), (by omega), e26_0, rfl, e26_4, e26_5, e26_6, e26_7, rfl, e26_11⟩
   ·
    refine wp_exit ?_
    refine zx (zx (x_in (?_)))
    refine zc (hK24 _ _ ?_)
    refine wp_seq_k fun K43 hK43 => ?_
    refine zb ?_
    refine za (zd (v := vb) e26_6 ?_)
    refine za (o_bstr Tryz.underlying30 Tryz.underlying5 Tryz.underlying9 rfl hoc.sl hH29 (zh 0 rfl) ?_)
    refine za (zd (v := (.int .i64 y)) e26_1 ?_)
    refine za (yd (a := y) (b := 0) rfl rfl ?_)
    refine za (ze (v := (S lc)) rfl ?_)
    refine za (ze (v := (.bool (decide (y = 0)))) rfl ?_)
    refine zf ?_
    refine zc (hK43 _ _ ?_)
    refine wp_ret ?_
    refine zV Tryz.results326  (v := (S lc)) rfl (x := (.bool (decide (y = 0)))) rfl ?_
    have hH44 : Has E w28 [R] := (hH29.front 1 rfl).first 1 rfl
    exact ⟨lc, by rw [show decide (y = 0) = fitsS n m from refput_ok hm hn hj hy hneg (by omega)], hlen, refput_be hm hn hj hlc hy hneg (by omega), hH44⟩
  ·
   refine zi (b' := false) 21 rfl (cF h33) rfl ?_
   refine zi (b' := false) 21 rfl (cF h33) rfl ?_
   refine za (zm (u := (.bool false)) ((rfl : _ = _).trans (cF h33)) rfl ?_)
   refine zf ?_
   refine zc (hK32 _ _ ?_)
   refine zS rfl rfl ?_
   refine wp_exit ?_
   refine zx (zx (x_in (?_)))
   refine zc (hK24 _ _ ?_)
   refine wp_seq_k fun K45 hK45 => ?_
   refine zb ?_
   refine za (zd (v := vb) e26_6 ?_)
   refine za (o_bstr Tryz.underlying30 Tryz.underlying5 Tryz.underlying9 rfl hoc.sl hH29 (zh 0 rfl) ?_)
   refine za (zd (v := (.int .i64 y)) e26_1 ?_)
   refine za (yd (a := y) (b := 0) rfl rfl ?_)
   refine za (ze (v := (S lc)) rfl ?_)
   refine za (ze (v := (.bool (decide (y = 0)))) rfl ?_)
   refine zf ?_
   refine zc (hK45 _ _ ?_)
   refine wp_ret ?_
   refine zV Tryz.results326  (v := (S lc)) rfl (x := (.bool (decide (y = 0)))) rfl ?_
   have hH46 : Has E w28 [R] := (hH29.front 1 rfl).first 1 rfl
   exact ⟨lc, by rw [show decide (y = 0) = fitsS n m from refput_ok hm hn hj hy hneg (by omega)], hlen, refput_be hm hn hj hlc hy hneg (by omega), hH46⟩
set_option maxHeartbeats 4000000 in
theorem refTake_c {E w : World} {R : List Hp} (hH : Has E w [R]) (m : Nat) (s : List UInt8) (hsl : s.length ≤ 9223372036854775807) :
  Calls Tryz.prog 182 #[(S s), (.int .i64 (m : Int))] w fun e w' => e = .returned (.tuple #[.int .i64 (takeS s m).1, .bool (takeS s m).2.2]) ∧ Has E w' [R] := by
 refine zs (args := [(S s), (.int .i64 (m : Int))]) Tryz.func182 rfl Tryz.ntmps182 (by simp) ?_
 refine wp_seq_k fun K1 hK1 => ?_
 refine zb ?_
 refine za (ze (v := (.int .i64 0)) rfl ?_)
 refine za (ze (v := (.bool false)) rfl ?_)
 refine zf ?_
 refine zc (hK1 _ _ ?_)
 refine wp_seq_k fun K2 hK2 => ?_
 refine wp_seq_k fun K3 hK3 => ?_
 refine zb ?_
 refine za (zd (v := (.int .i64 (m : Int))) rfl ?_)
 refine za (zL (a := (m : Int)) (b := 1) rfl rfl ?_)
 refine za (zd (v := (.bool (decide ((m : Int) < 1)))) rfl ?_)
 by_cases h4 : (m : Int) < 1
 ·
  refine zi (b' := true) 10 rfl (cT h4) rfl ?_
  refine zi (b' := true) 10 rfl (cT h4) rfl ?_
  refine za (zo (u := (.bool true)) ((rfl : _ = _).trans (cT h4)) rfl ?_)
  refine za (zd (v := (.bool true)) rfl ?_)
  refine zi (b' := true) 14 rfl rfl rfl ?_
  refine zi (b' := true) 14 rfl rfl rfl ?_
  refine zi (b' := true) 14 rfl rfl rfl ?_
  refine zi (b' := true) 14 rfl rfl rfl ?_
  refine za (zo (u := (.bool true)) rfl rfl ?_)
  refine za (zd (v := (.bool true)) rfl ?_)
  refine zi (b' := true) 20 rfl rfl rfl ?_
  refine zi (b' := true) 20 rfl rfl rfl ?_
  refine zi (b' := true) 20 rfl rfl rfl ?_
  refine zA 23 rfl rfl ?_
  refine zA 23 rfl rfl ?_
  refine zA 23 rfl rfl ?_
  refine zi (b' := true) 20 rfl rfl rfl ?_
  refine za (zo (u := (.bool true)) rfl rfl ?_)
  refine zf ?_
  refine zc (hK3 _ _ ?_)
  refine zN rfl rfl ?_
  refine wp_seq_k fun K5 hK5 => ?_
  refine zb ?_
  refine za (ze (v := (.int .i64 0)) rfl ?_)
  refine za (ze (v := (.bool false)) rfl ?_)
  refine zf ?_
  refine zc (hK5 _ _ ?_)
  refine wp_ret ?_
  refine zv (zV Tryz.results182  (v := (.int .i64 0)) rfl (x := (.bool false)) rfl ?_)
  exact ⟨by rw [takeS_no (by first | exact .inl (by omega) | exact .inr (.inl (by omega)) | exact .inr (.inr ⟨by omega, 0, by simpa using rfl, by omega⟩))], hH⟩
 ·
  refine zn 10 rfl (cF h4) (zd (v := (.int .i64 (m : Int))) rfl ?_)
  refine zn 10 rfl (cF h4) (o_gtr (a := (m : Int)) (b := 8) rfl rfl ?_)
  refine za (zm (u := (.bool (decide (8 < (m : Int))))) ((rfl : _ = _).trans (cF h4)) rfl ?_)
  refine za (zd (v := (.bool (decide (8 < (m : Int))))) rfl ?_)
  by_cases h6 : 8 < (m : Int)
  ·
   refine zi (b' := true) 14 rfl (cT h6) rfl ?_
   refine zi (b' := true) 14 rfl (cT h6) rfl ?_
   refine zi (b' := true) 14 rfl (cT h6) rfl ?_
   refine zi (b' := true) 14 rfl (cT h6) rfl ?_
   refine za (zo (u := (.bool true)) ((rfl : _ = _).trans (cT h6)) rfl ?_)
   refine za (zd (v := (.bool true)) rfl ?_)
   refine zi (b' := true) 20 rfl rfl rfl ?_
   refine zi (b' := true) 20 rfl rfl rfl ?_
   refine zi (b' := true) 20 rfl rfl rfl ?_
   refine zA 23 rfl rfl ?_
   refine zA 23 rfl rfl ?_
   refine zA 23 rfl rfl ?_
   refine zi (b' := true) 20 rfl rfl rfl ?_
   refine za (zo (u := (.bool true)) rfl rfl ?_)
   refine zf ?_
   refine zc (hK3 _ _ ?_)
   refine zN rfl rfl ?_
   refine wp_seq_k fun K7 hK7 => ?_
   refine zb ?_
   refine za (ze (v := (.int .i64 0)) rfl ?_)
   refine za (ze (v := (.bool false)) rfl ?_)
   refine zf ?_
   refine zc (hK7 _ _ ?_)
   refine wp_ret ?_
   refine zv (zV Tryz.results182  (v := (.int .i64 0)) rfl (x := (.bool false)) rfl ?_)
   exact ⟨by rw [takeS_no (by first | exact .inl (by omega) | exact .inr (.inl (by omega)) | exact .inr (.inr ⟨by omega, 0, by simpa using rfl, by omega⟩))], hH⟩
  ·
   refine zn 14 rfl (cF h6) (zd (v := (S s)) rfl ?_)
   refine zn 14 rfl (cF h6) (yb Tryz.underlying9 rfl ?_)
   refine zn 14 rfl (cF h6) (zd (v := (.int .i64 (m : Int))) rfl ?_)
   refine zn 14 rfl (cF h6) (zL (a := (s.length : Int)) (b := (m : Int)) rfl rfl ?_)
   refine za (zm (u := (.bool (decide ((s.length : Int) < (m : Int))))) ((rfl : _ = _).trans (cF h6)) rfl ?_)
   refine za (zd (v := (.bool (decide ((s.length : Int) < (m : Int))))) rfl ?_)
   by_cases h8 : (s.length : Int) < (m : Int)
   ·
    refine zi (b' := true) 20 rfl (cT h8) rfl ?_
    refine zi (b' := true) 20 rfl (cT h8) rfl ?_
    refine zi (b' := true) 20 rfl (cT h8) rfl ?_
    refine zA 23 rfl rfl ?_
    refine zA 23 rfl rfl ?_
    refine zA 23 rfl rfl ?_
    refine zi (b' := true) 20 rfl (cT h8) rfl ?_
    refine za (zo (u := (.bool true)) ((rfl : _ = _).trans (cT h8)) rfl ?_)
    refine zf ?_
    refine zc (hK3 _ _ ?_)
    refine zN rfl rfl ?_
    refine wp_seq_k fun K9 hK9 => ?_
    refine zb ?_
    refine za (ze (v := (.int .i64 0)) rfl ?_)
    refine za (ze (v := (.bool false)) rfl ?_)
    refine zf ?_
    refine zc (hK9 _ _ ?_)
    refine wp_ret ?_
    refine zv (zV Tryz.results182  (v := (.int .i64 0)) rfl (x := (.bool false)) rfl ?_)
    exact ⟨by rw [takeS_no (by first | exact .inl (by omega) | exact .inr (.inl (by omega)) | exact .inr (.inr ⟨by omega, 0, by simpa using rfl, by omega⟩))], hH⟩
   ·
    refine zn 20 rfl (cF h8) (zd (v := (.int .i64 (m : Int))) rfl ?_)
    refine zn 20 rfl (cF h8) (yd (a := (m : Int)) (b := 8) rfl rfl ?_)
    refine zn 20 rfl (cF h8) (zd (v := (.bool (decide ((m : Int) = 8)))) rfl ?_)
    by_cases h10 : (m : Int) = 8
    ·
     refine zn 23 rfl (cT h10) (zd (v := (S s)) rfl ?_)
     obtain ⟨c11, hx12⟩ : ∃ x_, s[((0 : Int)).toNat]? = some x_ := zM (by omega)
     have c11_lt := c11.toNat_lt
     refine zn 23 rfl (cT h10) (o_sidx Tryz.underlying9 rfl rfl (by omega) hx12 ?_)
     refine zn 23 rfl (cT h10) (o_geq (a := (c11.toNat : Int)) (b := 128) rfl rfl ?_)
     refine zn 20 rfl (cF h8) (zo (u := (.bool (decide (128 ≤ (c11.toNat : Int))))) ((rfl : _ = _).trans (cT h10)) rfl ?_)
     refine za (zm (u := (.bool (decide (128 ≤ (c11.toNat : Int))))) ((rfl : _ = _).trans (cF h8)) rfl ?_)
     refine zf ?_
     refine zc (hK3 _ _ ?_)
     refine zt rfl (fun h13 => ?_) (fun h13 => ?_)
     ·
      refine wp_seq_k fun K14 hK14 => ?_
      refine zb ?_
      refine za (ze (v := (.int .i64 0)) rfl ?_)
      refine za (ze (v := (.bool false)) rfl ?_)
      refine zf ?_
      refine zc (hK14 _ _ ?_)
      refine wp_ret ?_
      refine zv (zV Tryz.results182  (v := (.int .i64 0)) rfl (x := (.bool false)) rfl ?_)
      exact ⟨by rw [takeS_no (by first | exact .inl (by omega) | exact .inr (.inl (by omega)) | exact .inr (.inr ⟨by omega, c11, by simpa using hx12, by omega⟩))], hH⟩
     ·
      refine wp_skip ?_
      refine zc (hK2 _ _ ?_)
      refine wp_seq_k fun K15 hK15 => ?_
      refine zb ?_
      refine za (ze (v := (.int .i64 0)) rfl ?_)
      refine zf ?_
      refine zc (hK15 _ _ ?_)
      refine wp_seq_k fun K16 hK16 => ?_
      refine wp_seq_k fun K17 hK17 => ?_
      refine zb ?_
      refine za (ze (v := (.int .i64 0)) rfl ?_)
      refine zf ?_
      refine zc (hK17 _ _ ?_)
      refine wp_block ?_
      let I19 : Nat → (Nat → Value) → World → Prop := fun n__ r__ w__ => ∃ (i : Nat) (y : Int), n__ = m - i ∧ Has E w__ [R] ∧ (i ≤ m) ∧ (y = beVal (s.take i)) ∧ r__ 0 = (S s) ∧ r__ 1 = (.int .i64 (m : Int)) ∧ r__ 4 = (.int .i64 0) ∧ r__ 5 = (.bool false) ∧ r__ 6 = (.int .i64 y) ∧ r__ 7 = (.int .i64 (i : Int)) ∧ r__ 28 = (.bool (decide (128 ≤ (c11.toNat : Int))))
      refine zT I19 _ ⟨0, 0, rfl, hH, Nat.zero_le _, rfl, rfl, rfl, rfl, rfl, rfl, rfl, rfl⟩ ?_
      rintro n_ r22 w20 ⟨i, y, rfl, hH21, hi, hy, e18_0, e18_1, e18_4, e18_5, e18_6, e18_7, e18_28⟩
      have hb0 := beVal_nonneg (s.take i)
      have hb1 : i < m → beVal (s.take i) < 36028797018963968 := fun h => beVal_lt h (by omega) (by omega) (.inr (first_byte (by simpa using hx12) (by omega)))
      refine wp_seq_k fun K23 hK23 => ?_
      refine wp_seq_k fun K24 hK24 => ?_
      refine zb ?_
      refine za (zd (v := (.int .i64 (i : Int))) e18_7 ?_)
      refine za (zd (v := (.int .i64 (m : Int))) e18_1 ?_)
      refine za (zL (a := (i : Int)) (b := (m : Int)) rfl rfl ?_)
      refine zf ?_
      refine zc (hK24 _ _ ?_)
      refine zt rfl (fun h25 => ?_) (fun h25 => ?_)
      ·
       refine wp_skip ?_
       refine zc (hK23 _ _ ?_)
       refine wp_seq_k fun K26 hK26 => ?_
       refine wp_block ?_
       refine zb ?_
       refine za (zd (v := (.int .i64 y)) e18_6 ?_)
       refine za (o_mul (a := 256) (b := y) rfl rfl (w64 (by omega) (by omega)) ?_)
       refine za (zd (v := (S s)) e18_0 ?_)
       refine za (zd (v := (.int .i64 (i : Int))) e18_7 ?_)
       obtain ⟨c27, hx28⟩ : ∃ x_, s[((i : Int)).toNat]? = some x_ := zM (by omega)
       have c27_lt := c27.toNat_lt
       refine za (o_sidx Tryz.underlying9 rfl rfl (by omega) hx28 ?_)
       refine za (ya Tryz.underlying5 Tryz.underlying3 rfl (w_u8 _) ?_)
       refine za (zH (a := 256 * y) (b := (c27.toNat : Int)) rfl rfl (w64 (by omega) (by omega)) ?_)
       refine za (ze (v := (.int .i64 ((256 * y) + (c27.toNat : Int)))) rfl ?_)
       refine zf ?_
       refine zG ?_
       refine zc (hK26 _ _ ?_)
       refine zb ?_
       refine za (zd (v := (.int .i64 (i : Int))) e18_7 ?_)
       refine za (zH (a := (i : Int)) (b := 1) rfl rfl (w64 (by omega) (by omega)) ?_)
       refine za (ze (v := (.int .i64 ((i : Int) + 1))) rfl ?_)
       refine zf ?_
       refine zc ⟨m - (i + 1), _, rfl, ?_, ?_⟩
       · omega
       · exact ⟨(i + 1), ((256 * y) + (c27.toNat : Int)), rfl, hH21, (by omega), (by rw [zO (by simpa using hx28), beVal_snoc, ← hy]; omega), e18_0, e18_1, e18_4, e18_5, rfl, rfl, e18_28⟩
      ·
       refine wp_exit ?_
       refine zx (zx (x_in (?_)))
       refine zc (hK16 _ _ ?_)
       refine wp_seq_k fun K29 hK29 => ?_
       refine zb ?_
       refine za (zd (v := (.int .i64 y)) e18_6 ?_)
       refine za (ze (v := (.int .i64 y)) rfl ?_)
       refine za (ze (v := (.bool true)) rfl ?_)
       refine zf ?_
       refine zc (hK29 _ _ ?_)
       refine wp_ret ?_
       refine zV Tryz.results182  (v := (.int .i64 y)) rfl (x := (.bool true)) rfl ?_
       have e : i = m := by omega
       rw [e] at hy
       exact ⟨by rw [takeS_yes (by omega) (by omega) (by omega) (.inr (first_byte (by simpa using hx12) (by omega))), hy], hH21⟩
    ·
     refine zi (b' := false) 23 rfl (cF h10) rfl ?_
     refine zi (b' := false) 23 rfl (cF h10) rfl ?_
     refine zi (b' := false) 23 rfl (cF h10) rfl ?_
     refine zn 20 rfl (cF h8) (zm (u := (.bool false)) ((rfl : _ = _).trans (cF h10)) rfl ?_)
     refine za (zm (u := (.bool false)) ((rfl : _ = _).trans (cF h8)) rfl ?_)
     refine zf ?_
     refine zc (hK3 _ _ ?_)
     refine zS rfl rfl ?_
     refine wp_skip ?_
     refine zc (hK2 _ _ ?_)
     refine wp_seq_k fun K30 hK30 => ?_
     refine zb ?_
     refine za (ze (v := (.int .i64 0)) rfl ?_)
     refine zf ?_
     refine zc (hK30 _ _ ?_)
     refine wp_seq_k fun K31 hK31 => ?_
     refine wp_seq_k fun K32 hK32 => ?_
     refine zb ?_
     refine za (ze (v := (.int .i64 0)) rfl ?_)
     refine zf ?_
     refine zc (hK32 _ _ ?_)
     refine wp_block ?_
     let I34 : Nat → (Nat → Value) → World → Prop := fun n__ r__ w__ => ∃ (i : Nat) (y : Int), n__ = m - i ∧ Has E w__ [R] ∧ (i ≤ m) ∧ (y = beVal (s.take i)) ∧ r__ 0 = (S s) ∧ r__ 1 = (.int .i64 (m : Int)) ∧ r__ 4 = (.int .i64 0) ∧ r__ 5 = (.bool false) ∧ r__ 6 = (.int .i64 y) ∧ r__ 7 = (.int .i64 (i : Int)) ∧ r__ 28 = (.bool false)
     refine zT I34 _ ⟨0, 0, rfl, hH, Nat.zero_le _, rfl, rfl, rfl, rfl, rfl, rfl, rfl, rfl⟩ ?_
     rintro n_ r37 w35 ⟨i, y, rfl, hH36, hi, hy, e33_0, e33_1, e33_4, e33_5, e33_6, e33_7, e33_28⟩
     have hb0 := beVal_nonneg (s.take i)
     have hb1 : i < m → beVal (s.take i) < 36028797018963968 := fun h => beVal_lt h (by omega) (by omega) (.inl (by omega))
     refine wp_seq_k fun K38 hK38 => ?_
     refine wp_seq_k fun K39 hK39 => ?_
     refine zb ?_
     refine za (zd (v := (.int .i64 (i : Int))) e33_7 ?_)
     refine za (zd (v := (.int .i64 (m : Int))) e33_1 ?_)
     refine za (zL (a := (i : Int)) (b := (m : Int)) rfl rfl ?_)
     refine zf ?_
     refine zc (hK39 _ _ ?_)
     refine zt rfl (fun h40 => ?_) (fun h40 => ?_)
     ·
      refine wp_skip ?_
      refine zc (hK38 _ _ ?_)
      refine wp_seq_k fun K41 hK41 => ?_
      refine wp_block ?_
      refine zb ?_
      refine za (zd (v := (.int .i64 y)) e33_6 ?_)
      refine za (o_mul (a := 256) (b := y) rfl rfl (w64 (by omega) (by omega)) ?_)
      refine za (zd (v := (S s)) e33_0 ?_)
      refine za (zd (v := (.int .i64 (i : Int))) e33_7 ?_)
      obtain ⟨c42, hx43⟩ : ∃ x_, s[((i : Int)).toNat]? = some x_ := zM (by omega)
      have c42_lt := c42.toNat_lt
      refine za (o_sidx Tryz.underlying9 rfl rfl (by omega) hx43 ?_)
      refine za (ya Tryz.underlying5 Tryz.underlying3 rfl (w_u8 _) ?_)
      refine za (zH (a := 256 * y) (b := (c42.toNat : Int)) rfl rfl (w64 (by omega) (by omega)) ?_)
      refine za (ze (v := (.int .i64 ((256 * y) + (c42.toNat : Int)))) rfl ?_)
      refine zf ?_
      refine zG ?_
      refine zc (hK41 _ _ ?_)
      refine zb ?_
      refine za (zd (v := (.int .i64 (i : Int))) e33_7 ?_)
      refine za (zH (a := (i : Int)) (b := 1) rfl rfl (w64 (by omega) (by omega)) ?_)
      refine za (ze (v := (.int .i64 ((i : Int) + 1))) rfl ?_)
      refine zf ?_
      refine zc ⟨m - (i + 1), _, rfl, ?_, ?_⟩
      · omega
      · exact ⟨(i + 1), ((256 * y) + (c42.toNat : Int)), rfl, hH36, (by omega), (by rw [zO (by simpa using hx43), beVal_snoc, ← hy]; omega), e33_0, e33_1, e33_4, e33_5, rfl, rfl, e33_28⟩
     ·
      refine wp_exit ?_
      refine zx (zx (x_in (?_)))
      refine zc (hK31 _ _ ?_)
      refine wp_seq_k fun K44 hK44 => ?_
      refine zb ?_
      refine za (zd (v := (.int .i64 y)) e33_6 ?_)
      refine za (ze (v := (.int .i64 y)) rfl ?_)
      refine za (ze (v := (.bool true)) rfl ?_)
      refine zf ?_
      refine zc (hK44 _ _ ?_)
      refine wp_ret ?_
      refine zV Tryz.results182  (v := (.int .i64 y)) rfl (x := (.bool true)) rfl ?_
      have e : i = m := by omega
      rw [e] at hy
      exact ⟨by rw [takeS_yes (by omega) (by omega) (by omega) (.inl (by omega)), hy], hH36⟩
set_option maxHeartbeats 4000000 in
theorem rlaid_c {E w : World} {R : List Hp} (hH : Has E w [R]) (m : Nat) (hm : 1 ≤ m ∧ m ≤ 8) (n : Int) (hn : -9223372036854775808 ≤ n ∧ n ≤ 9223372036854775807) (hf : fitsS n m = true) :
  Calls Tryz.prog 266 #[(.int .i64 (m : Int)), (.int .i64 n)] w fun e w' => e = .returned (S (beFrom n m)) ∧ Has E w' [R] := by
 refine zs (args := [(.int .i64 (m : Int)), (.int .i64 n)]) Tryz.func266 rfl Tryz.ntmps266 (by simp) ?_
 refine wp_seq_k fun K1 hK1 => ?_
 refine zb ?_
 refine za (ze (v := (S ([] : List UInt8))) rfl ?_)
 refine zf ?_
 refine zc (hK1 _ _ ?_)
 refine wp_seq_k fun K2 hK2 => ?_
 refine zb ?_
 refine za (zd (v := (.int .i64 (m : Int))) rfl ?_)
 refine za (zd (v := (.int .i64 n)) rfl ?_)
 refine za (zk (vs := #[(.int .i64 (m : Int)), (.int .i64 n)]) ca326 rfl (zI rfl rfl) (refPut_c hH.all m hm n hn) ?_)
 rintro _ w7 ⟨t3, rfl, _, ht4, hX5⟩
 refine ⟨_, rfl, ?_⟩
 have hH6 : Has E w7 [R] := hX5.of_all
 refine za (zd (v := (.tuple #[(S t3), (.bool (fitsS n m))])) rfl ?_)
 refine za (zp (v := (S t3)) rfl rfl ?_)
 refine za (zp (v := (.bool (fitsS n m))) rfl rfl ?_)
 refine za (ze (v := (S t3)) rfl ?_)
 refine za (ze (v := (.bool (fitsS n m))) rfl ?_)
 refine zf ?_
 refine zc (hK2 _ _ ?_)
 refine wp_seq_k fun K8 hK8 => ?_
 refine zb ?_
 refine za (zd (v := (S t3)) rfl ?_)
 refine za (ze (v := (S t3)) rfl ?_)
 refine zf ?_
 refine zc (hK8 _ _ ?_)
 refine wp_ret ?_
 refine zq Tryz.results266  (v := (S t3)) rfl ?_
 exact ⟨by rw [ht4 hf], hH6⟩
end Go.Q
namespace Go.Q
open Go.Proofs
set_option linter.unusedVariables false
set_option maxRecDepth 100000
attribute [local irreducible] wpList OK Code.wp
set_option maxHeartbeats 4000000 in
theorem refright_c {E w : World} {R : List Hp} (hH : Has E w [R]) (f : Fr) (hfl : f.data.length ≤ 9223372036854775807) :
  Calls Tryz.prog 183 #[(.agg #[(.int .i64 f.ep), (.int .i64 f.pl), (.int .i64 f.gsn), (S f.data)])] w fun e w' => e = .returned (.bool (rightS f)) ∧ Has E w' [R] := by
 refine zs (args := [(.agg #[(.int .i64 f.ep), (.int .i64 f.pl), (.int .i64 f.gsn), (S f.data)])]) Tryz.func183 rfl Tryz.ntmps183 (by simp) ?_
 refine wp_seq_k fun K1 hK1 => ?_
 refine zb ?_
 refine za (o_box (cs := #[(.int .i64 f.ep), (.int .i64 f.pl), (.int .i64 f.gsn), (S f.data)]) rfl rfl hH fun b2 w3 hH4 => ?_)
 refine za (ze (v := (.bool false)) rfl ?_)
 refine zf ?_
 refine zc (hK1 _ _ ?_)
 refine wp_seq_k fun K5 hK5 => ?_
 refine zb ?_
 refine za (zg (k := 0) (fun _ => by kernel_rfl) rfl ?_)
 refine za (zj (v := (.int .i64 f.ep)) Tryz.underlying3 rfl rfl hH4 (zh 0 rfl) (CellsAt.one rfl) ?_)
 refine za (o_geq (a := f.ep) (b := 0) rfl rfl ?_)
 refine za (zd (v := (.bool (decide (0 ≤ f.ep)))) rfl ?_)
 by_cases h6 : 0 ≤ f.ep
 ·
  refine zn 6 rfl (cT h6) (zg (k := 0) (fun _ => by kernel_rfl) rfl ?_)
  refine zn 6 rfl (cT h6) (zj (v := (.int .i64 f.ep)) Tryz.underlying3 rfl rfl hH4 (zh 0 rfl) (CellsAt.one rfl) ?_)
  refine zn 6 rfl (cT h6) (zL (a := f.ep) (b := 2147483648) rfl rfl ?_)
  refine za (zo (u := (.bool (decide (f.ep < 2147483648)))) ((rfl : _ = _).trans (cT h6)) rfl ?_)
  refine za (zd (v := (.bool (decide (f.ep < 2147483648)))) rfl ?_)
  by_cases h7 : f.ep < 2147483648
  ·
   refine zn 11 rfl (cT h7) (zg (k := 1) (fun _ => by kernel_rfl) rfl ?_)
   refine zn 11 rfl (cT h7) (zj (v := (.int .i64 f.pl)) Tryz.underlying3 rfl rfl hH4 (zh 0 rfl) (CellsAt.one rfl) ?_)
   refine zn 11 rfl (cT h7) (o_geq (a := f.pl) (b := 0) rfl rfl ?_)
   refine za (zo (u := (.bool (decide (0 ≤ f.pl)))) ((rfl : _ = _).trans (cT h7)) rfl ?_)
   refine za (zd (v := (.bool (decide (0 ≤ f.pl)))) rfl ?_)
   by_cases h8 : 0 ≤ f.pl
   ·
    refine zn 16 rfl (cT h8) (zg (k := 1) (fun _ => by kernel_rfl) rfl ?_)
    refine zn 16 rfl (cT h8) (zj (v := (.int .i64 f.pl)) Tryz.underlying3 rfl rfl hH4 (zh 0 rfl) (CellsAt.one rfl) ?_)
    refine zn 16 rfl (cT h8) (zL (a := f.pl) (b := 4611686018427387904) rfl rfl ?_)
    refine za (zo (u := (.bool (decide (f.pl < 4611686018427387904)))) ((rfl : _ = _).trans (cT h8)) rfl ?_)
    refine za (zd (v := (.bool (decide (f.pl < 4611686018427387904)))) rfl ?_)
    by_cases h9 : f.pl < 4611686018427387904
    ·
     refine zn 21 rfl (cT h9) (zg (k := 2) (fun _ => by kernel_rfl) rfl ?_)
     refine zn 21 rfl (cT h9) (zj (v := (.int .i64 f.gsn)) Tryz.underlying3 rfl rfl hH4 (zh 0 rfl) (CellsAt.one rfl) ?_)
     refine zn 21 rfl (cT h9) (o_geq (a := f.gsn) (b := 0) rfl rfl ?_)
     refine za (zo (u := (.bool (decide (0 ≤ f.gsn)))) ((rfl : _ = _).trans (cT h9)) rfl ?_)
     refine za (zd (v := (.bool (decide (0 ≤ f.gsn)))) rfl ?_)
     by_cases h10 : 0 ≤ f.gsn
     ·
      refine zn 26 rfl (cT h10) (zg (k := 2) (fun _ => by kernel_rfl) rfl ?_)
      refine zn 26 rfl (cT h10) (zj (v := (.int .i64 f.gsn)) Tryz.underlying3 rfl rfl hH4 (zh 0 rfl) (CellsAt.one rfl) ?_)
      refine zn 26 rfl (cT h10) (zL (a := f.gsn) (b := 4611686018427387904) rfl rfl ?_)
      refine za (zo (u := (.bool (decide (f.gsn < 4611686018427387904)))) ((rfl : _ = _).trans (cT h10)) rfl ?_)
      refine za (zd (v := (.bool (decide (f.gsn < 4611686018427387904)))) rfl ?_)
      by_cases h11 : f.gsn < 4611686018427387904
      ·
       refine zn 31 rfl (cT h11) (zg (k := 3) (fun _ => by kernel_rfl) rfl ?_)
       refine zn 31 rfl (cT h11) (zj (v := (S f.data)) Tryz.underlying9 rfl rfl hH4 (zh 0 rfl) (CellsAt.one rfl) ?_)
       refine zn 31 rfl (cT h11) (yb Tryz.underlying9 rfl ?_)
       refine zn 31 rfl (cT h11) (o_leq (a := (f.data.length : Int)) (b := 200) rfl rfl ?_)
       refine za (zo (u := (.bool (decide ((f.data.length : Int) ≤ 200)))) ((rfl : _ = _).trans (cT h11)) rfl ?_)
       refine za (ze (v := (.bool (decide ((f.data.length : Int) ≤ 200)))) rfl ?_)
       refine zf ?_
       refine zc (hK5 _ _ ?_)
       refine wp_ret ?_
       refine zq Tryz.results183  (v := (.bool (decide ((f.data.length : Int) ≤ 200)))) rfl ?_
       have hH12 : Has E w3 [R] := (hH4.front 1 rfl).first 1 rfl
       exact ⟨congrArg (fun b => Ending.returned (.bool b)) (decide_eq_decide.2 (by omega)), hH12⟩
      ·
       refine zi (b' := false) 31 rfl (cF h11) rfl ?_
       refine zi (b' := false) 31 rfl (cF h11) rfl ?_
       refine zi (b' := false) 31 rfl (cF h11) rfl ?_
       refine zi (b' := false) 31 rfl (cF h11) rfl ?_
       refine za (zm (u := (.bool false)) ((rfl : _ = _).trans (cF h11)) rfl ?_)
       refine za (ze (v := (.bool false)) rfl ?_)
       refine zf ?_
       refine zc (hK5 _ _ ?_)
       refine wp_ret ?_
       refine zq Tryz.results183  (v := (.bool false)) rfl ?_
       have hH13 : Has E w3 [R] := (hH4.front 1 rfl).first 1 rfl
       exact ⟨congrArg (fun b => Ending.returned (.bool b)) ((decide_eq_false (by omega)).symm), hH13⟩
     ·
      refine zi (b' := false) 26 rfl (cF h10) rfl ?_
      refine zi (b' := false) 26 rfl (cF h10) rfl ?_
      refine zi (b' := false) 26 rfl (cF h10) rfl ?_
      refine za (zm (u := (.bool false)) ((rfl : _ = _).trans (cF h10)) rfl ?_)
      refine za (zd (v := (.bool false)) rfl ?_)
      refine zi (b' := false) 31 rfl rfl rfl ?_
      refine zi (b' := false) 31 rfl rfl rfl ?_
      refine zi (b' := false) 31 rfl rfl rfl ?_
      refine zi (b' := false) 31 rfl rfl rfl ?_
      refine za (zm (u := (.bool false)) rfl rfl ?_)
      refine za (ze (v := (.bool false)) rfl ?_)
      refine zf ?_
      refine zc (hK5 _ _ ?_)
      refine wp_ret ?_
      refine zq Tryz.results183  (v := (.bool false)) rfl ?_
      have hH14 : Has E w3 [R] := (hH4.front 1 rfl).first 1 rfl
      exact ⟨congrArg (fun b => Ending.returned (.bool b)) ((decide_eq_false (by omega)).symm), hH14⟩
    ·
     refine zi (b' := false) 21 rfl (cF h9) rfl ?_
     refine zi (b' := false) 21 rfl (cF h9) rfl ?_
     refine zi (b' := false) 21 rfl (cF h9) rfl ?_
     refine za (zm (u := (.bool false)) ((rfl : _ = _).trans (cF h9)) rfl ?_)
     refine za (zd (v := (.bool false)) rfl ?_)
     refine zi (b' := false) 26 rfl rfl rfl ?_
     refine zi (b' := false) 26 rfl rfl rfl ?_
     refine zi (b' := false) 26 rfl rfl rfl ?_
     refine za (zm (u := (.bool false)) rfl rfl ?_)
     refine za (zd (v := (.bool false)) rfl ?_)
     refine zi (b' := false) 31 rfl rfl rfl ?_
     refine zi (b' := false) 31 rfl rfl rfl ?_
     refine zi (b' := false) 31 rfl rfl rfl ?_
     refine zi (b' := false) 31 rfl rfl rfl ?_
     refine za (zm (u := (.bool false)) rfl rfl ?_)
     refine za (ze (v := (.bool false)) rfl ?_)
     refine zf ?_
     refine zc (hK5 _ _ ?_)
     refine wp_ret ?_
     refine zq Tryz.results183  (v := (.bool false)) rfl ?_
     have hH15 : Has E w3 [R] := (hH4.front 1 rfl).first 1 rfl
     exact ⟨congrArg (fun b => Ending.returned (.bool b)) ((decide_eq_false (by omega)).symm), hH15⟩
   ·
    refine zi (b' := false) 16 rfl (cF h8) rfl ?_
    refine zi (b' := false) 16 rfl (cF h8) rfl ?_
    refine zi (b' := false) 16 rfl (cF h8) rfl ?_
    refine za (zm (u := (.bool false)) ((rfl : _ = _).trans (cF h8)) rfl ?_)
    refine za (zd (v := (.bool false)) rfl ?_)
    refine zi (b' := false) 21 rfl rfl rfl ?_
    refine zi (b' := false) 21 rfl rfl rfl ?_
    refine zi (b' := false) 21 rfl rfl rfl ?_
    refine za (zm (u := (.bool false)) rfl rfl ?_)
    refine za (zd (v := (.bool false)) rfl ?_)
    refine zi (b' := false) 26 rfl rfl rfl ?_
    refine zi (b' := false) 26 rfl rfl rfl ?_
    refine zi (b' := false) 26 rfl rfl rfl ?_
    refine za (zm (u := (.bool false)) rfl rfl ?_)
    refine za (zd (v := (.bool false)) rfl ?_)
    refine zi (b' := false) 31 rfl rfl rfl ?_
    refine zi (b' := false) 31 rfl rfl rfl ?_
    refine zi (b' := false) 31 rfl rfl rfl ?_
    refine zi (b' := false) 31 rfl rfl rfl ?_
    refine za (zm (u := (.bool false)) rfl rfl ?_)
    refine za (ze (v := (.bool false)) rfl ?_)
    refine zf ?_
    refine zc (hK5 _ _ ?_)
    refine wp_ret ?_
    refine zq Tryz.results183  (v := (.bool false)) rfl ?_
    have hH16 : Has E w3 [R] := (hH4.front 1 rfl).first 1 rfl
    exact ⟨congrArg (fun b => Ending.returned (.bool b)) ((decide_eq_false (by omega)).symm), hH16⟩
  ·
   refine zi (b' := false) 11 rfl (cF h7) rfl ?_
   refine zi (b' := false) 11 rfl (cF h7) rfl ?_
   refine zi (b' := false) 11 rfl (cF h7) rfl ?_
   refine za (zm (u := (.bool false)) ((rfl : _ = _).trans (cF h7)) rfl ?_)
   refine za (zd (v := (.bool false)) rfl ?_)
   refine zi (b' := false) 16 rfl rfl rfl ?_
   refine zi (b' := false) 16 rfl rfl rfl ?_
   refine zi (b' := false) 16 rfl rfl rfl ?_
   refine za (zm (u := (.bool false)) rfl rfl ?_)
   refine za (zd (v := (.bool false)) rfl ?_)
   refine zi (b' := false) 21 rfl rfl rfl ?_
   refine zi (b' := false) 21 rfl rfl rfl ?_
   refine zi (b' := false) 21 rfl rfl rfl ?_
   refine za (zm (u := (.bool false)) rfl rfl ?_)
   refine za (zd (v := (.bool false)) rfl ?_)
   refine zi (b' := false) 26 rfl rfl rfl ?_
   refine zi (b' := false) 26 rfl rfl rfl ?_
   refine zi (b' := false) 26 rfl rfl rfl ?_
   refine za (zm (u := (.bool false)) rfl rfl ?_)
   refine za (zd (v := (.bool false)) rfl ?_)
   refine zi (b' := false) 31 rfl rfl rfl ?_
   refine zi (b' := false) 31 rfl rfl rfl ?_
   refine zi (b' := false) 31 rfl rfl rfl ?_
   refine zi (b' := false) 31 rfl rfl rfl ?_
   refine za (zm (u := (.bool false)) rfl rfl ?_)
   refine za (ze (v := (.bool false)) rfl ?_)
   refine zf ?_
   refine zc (hK5 _ _ ?_)
   refine wp_ret ?_
   refine zq Tryz.results183  (v := (.bool false)) rfl ?_
   have hH17 : Has E w3 [R] := (hH4.front 1 rfl).first 1 rfl
   exact ⟨congrArg (fun b => Ending.returned (.bool b)) ((decide_eq_false (by omega)).symm), hH17⟩
 ·
  refine zi (b' := false) 6 rfl (cF h6) rfl ?_
  refine zi (b' := false) 6 rfl (cF h6) rfl ?_
  refine zi (b' := false) 6 rfl (cF h6) rfl ?_
  refine za (zm (u := (.bool false)) ((rfl : _ = _).trans (cF h6)) rfl ?_)
  refine za (zd (v := (.bool false)) rfl ?_)
  refine zi (b' := false) 11 rfl rfl rfl ?_
  refine zi (b' := false) 11 rfl rfl rfl ?_
  refine zi (b' := false) 11 rfl rfl rfl ?_
  refine za (zm (u := (.bool false)) rfl rfl ?_)
  refine za (zd (v := (.bool false)) rfl ?_)
  refine zi (b' := false) 16 rfl rfl rfl ?_
  refine zi (b' := false) 16 rfl rfl rfl ?_
  refine zi (b' := false) 16 rfl rfl rfl ?_
  refine za (zm (u := (.bool false)) rfl rfl ?_)
  refine za (zd (v := (.bool false)) rfl ?_)
  refine zi (b' := false) 21 rfl rfl rfl ?_
  refine zi (b' := false) 21 rfl rfl rfl ?_
  refine zi (b' := false) 21 rfl rfl rfl ?_
  refine za (zm (u := (.bool false)) rfl rfl ?_)
  refine za (zd (v := (.bool false)) rfl ?_)
  refine zi (b' := false) 26 rfl rfl rfl ?_
  refine zi (b' := false) 26 rfl rfl rfl ?_
  refine zi (b' := false) 26 rfl rfl rfl ?_
  refine za (zm (u := (.bool false)) rfl rfl ?_)
  refine za (zd (v := (.bool false)) rfl ?_)
  refine zi (b' := false) 31 rfl rfl rfl ?_
  refine zi (b' := false) 31 rfl rfl rfl ?_
  refine zi (b' := false) 31 rfl rfl rfl ?_
  refine zi (b' := false) 31 rfl rfl rfl ?_
  refine za (zm (u := (.bool false)) rfl rfl ?_)
  refine za (ze (v := (.bool false)) rfl ?_)
  refine zf ?_
  refine zc (hK5 _ _ ?_)
  refine wp_ret ?_
  refine zq Tryz.results183  (v := (.bool false)) rfl ?_
  have hH18 : Has E w3 [R] := (hH4.front 1 rfl).first 1 rfl
  exact ⟨congrArg (fun b => Ending.returned (.bool b)) ((decide_eq_false (by omega)).symm), hH18⟩
set_option maxHeartbeats 4000000 in
theorem refmake_c {E w : World} {R : List Hp} (hH : Has E w [R]) (f : Fr) (hfl : f.data.length ≤ 9223372036854775807) (hr : rightS f = true) :
  Calls Tryz.prog 184 #[(.agg #[(.int .i64 f.ep), (.int .i64 f.pl), (.int .i64 f.gsn), (S f.data)])] w fun e w' => e = .returned (S (makeS f)) ∧ Has E w' [R] := by
 obtain ⟨hr1, hr2, hr3, hr4, hr5, hr6, hr7⟩ := rightS_of hr
 refine zs (args := [(.agg #[(.int .i64 f.ep), (.int .i64 f.pl), (.int .i64 f.gsn), (S f.data)])]) Tryz.func184 rfl Tryz.ntmps184 (by simp) ?_
 refine wp_seq_k fun K1 hK1 => ?_
 refine zb ?_
 refine za (o_box (cs := #[(.int .i64 f.ep), (.int .i64 f.pl), (.int .i64 f.gsn), (S f.data)]) rfl rfl hH fun b2 w3 hH4 => ?_)
 refine za (ze (v := (S ([] : List UInt8))) rfl ?_)
 refine zf ?_
 refine zc (hK1 _ _ ?_)
 refine wp_seq_k fun K5 hK5 => ?_
 refine Rest.region mixed (by kernel_rfl) ?_
 have hH6 : Has E { w3 with drawn := w3.drawn + 1 } [[Hp.one b2 (.cells #[(.int .i64 f.ep), (.int .i64 f.pl), (.int .i64 f.gsn), (S f.data)] 44 (0, 0))], R] := Has0.drew hH4 _
 refine Rest.phaseA (fun w_ => Has E w_ [[Hp.one b2 (.cells #[(.int .i64 f.ep), (.int .i64 f.pl), (.int .i64 f.gsn), (S f.data)] 44 (0, 0))]]) 0 18 18 rfl (by decide) (by kernel_rfl) ?_
 refine zr 0 rfl (by kernel_rfl) (fun w_ h_ => zg (k := 3) (fun _ => by kernel_rfl) rfl ⟨rfl, rfl⟩) ?_
 refine zr 1 rfl (by kernel_rfl) (fun w_ h_ => zj (v := (S f.data)) Tryz.underlying9 rfl rfl h_ (zh 0 rfl) (CellsAt.one rfl) ⟨rfl, rfl⟩) ?_
 refine zr 2 rfl (by kernel_rfl) (fun w_ h_ => yb Tryz.underlying9 rfl ⟨rfl, rfl⟩) ?_
 refine zr 4 rfl (by kernel_rfl) (fun w_ h_ => zg (k := 0) (fun _ => by kernel_rfl) rfl ⟨rfl, rfl⟩) ?_
 refine zr 5 rfl (by kernel_rfl) (fun w_ h_ => zj (v := (.int .i64 f.ep)) Tryz.underlying3 rfl rfl h_ (zh 0 rfl) (CellsAt.one rfl) ⟨rfl, rfl⟩) ?_
 refine zr 8 rfl (by kernel_rfl) (fun w_ h_ => zg (k := 1) (fun _ => by kernel_rfl) rfl ⟨rfl, rfl⟩) ?_
 refine zr 9 rfl (by kernel_rfl) (fun w_ h_ => zj (v := (.int .i64 f.pl)) Tryz.underlying3 rfl rfl h_ (zh 0 rfl) (CellsAt.one rfl) ⟨rfl, rfl⟩) ?_
 refine zr 12 rfl (by kernel_rfl) (fun w_ h_ => zg (k := 2) (fun _ => by kernel_rfl) rfl ⟨rfl, rfl⟩) ?_
 refine zr 13 rfl (by kernel_rfl) (fun w_ h_ => zj (v := (.int .i64 f.gsn)) Tryz.underlying3 rfl rfl h_ (zh 0 rfl) (CellsAt.one rfl) ⟨rfl, rfl⟩) ?_
 refine zr 16 rfl (by kernel_rfl) (fun w_ h_ => zg (k := 3) (fun _ => by kernel_rfl) rfl ⟨rfl, rfl⟩) ?_
 refine zr 17 rfl (by kernel_rfl) (fun w_ h_ => zj (v := (S f.data)) Tryz.underlying9 rfl rfl h_ (zh 0 rfl) (CellsAt.one rfl) ⟨rfl, rfl⟩) ?_
 have hH7 : Has E { w3 with drawn := w3.drawn + 1 } [[Hp.one b2 (.cells #[(.int .i64 f.ep), (.int .i64 f.pl), (.int .i64 f.gsn), (S f.data)] 44 (0, 0))]] := hH6.first 1 rfl
 refine a_w 3 rfl (by kernel_rfl) hH7 (zk (vs := #[(.int .i64 1), (.int .i64 (f.data.length : Int))]) ca266 rfl (zI rfl rfl) (rlaid_c hH6.all 1 (by decide) (f.data.length : Int) (by omega) (fits_head hr).1) ?_)
 rintro _ w10 ⟨rfl, hX8⟩
 refine ⟨_, rfl, ?_⟩
 have hH9 := hX8.of_all
 have hH11 : Has E w10 [[Hp.one b2 (.cells #[(.int .i64 f.ep), (.int .i64 f.pl), (.int .i64 f.gsn), (S f.data)] 44 (0, 0))]] := hH9.first 1 rfl
 refine a_w 6 rfl (by kernel_rfl) hH11 (zk (vs := #[(.int .i64 4), (.int .i64 f.ep)]) ca266 rfl (zI rfl rfl) (rlaid_c hH9.all 4 (by decide) f.ep (by omega) (fits_head hr).2.1) ?_)
 rintro _ w14 ⟨rfl, hX12⟩
 refine ⟨_, rfl, ?_⟩
 have hH13 := hX12.of_all
 refine zr 7 rfl (by kernel_rfl) (fun w_ h_ => o_sadd rfl rfl (by simp only [List.length_append, zD, laidS_len]; omega) ⟨rfl, rfl⟩) ?_
 have hH15 : Has E w14 [[Hp.one b2 (.cells #[(.int .i64 f.ep), (.int .i64 f.pl), (.int .i64 f.gsn), (S f.data)] 44 (0, 0))]] := hH13.first 1 rfl
 refine a_w 10 rfl (by kernel_rfl) hH15 (zk (vs := #[(.int .i64 8), (.int .i64 f.pl)]) ca266 rfl (zI rfl rfl) (rlaid_c hH13.all 8 (by decide) f.pl (by omega) (fits_head hr).2.2.1) ?_)
 rintro _ w18 ⟨rfl, hX16⟩
 refine ⟨_, rfl, ?_⟩
 have hH17 := hX16.of_all
 refine zr 11 rfl (by kernel_rfl) (fun w_ h_ => o_sadd rfl rfl (by simp only [List.length_append, zD, laidS_len]; omega) ⟨rfl, rfl⟩) ?_
 have hH19 : Has E w18 [[Hp.one b2 (.cells #[(.int .i64 f.ep), (.int .i64 f.pl), (.int .i64 f.gsn), (S f.data)] 44 (0, 0))]] := hH17.first 1 rfl
 refine a_w 14 rfl (by kernel_rfl) hH19 (zk (vs := #[(.int .i64 8), (.int .i64 f.gsn)]) ca266 rfl (zI rfl rfl) (rlaid_c hH17.all 8 (by decide) f.gsn (by omega) (fits_head hr).2.2.2) ?_)
 rintro _ w22 ⟨rfl, hX20⟩
 refine ⟨_, rfl, ?_⟩
 have hH21 := hX20.of_all
 refine zr 15 rfl (by kernel_rfl) (fun w_ h_ => o_sadd rfl rfl (by simp only [List.length_append, zD, laidS_len]; omega) ⟨rfl, rfl⟩) ?_
 have hH23 : Has E w22 [[Hp.one b2 (.cells #[(.int .i64 f.ep), (.int .i64 f.pl), (.int .i64 f.gsn), (S f.data)] 44 (0, 0))]] := hH21.first 1 rfl
 refine zQ (by kernel_rfl) hH23 ?_
 refine zP 18 rfl (by kernel_rfl) (o_sadd rfl rfl (by simp only [List.length_append, zD, laidS_len]; omega) ?_)
 refine zP 19 rfl (by kernel_rfl) (ze (v := (S (((((beFrom (f.data.length : Int) 1) ++ (beFrom f.ep 4)) ++ (beFrom f.pl 8)) ++ (beFrom f.gsn 8)) ++ f.data))) rfl ?_)
 refine Rest.done (by kernel_rfl) ?_
 refine zc (hK5 _ _ ?_)
 refine wp_seq_k fun K24 hK24 => ?_
 refine zb ?_
 refine za (zd (v := (S (((((beFrom (f.data.length : Int) 1) ++ (beFrom f.ep 4)) ++ (beFrom f.pl 8)) ++ (beFrom f.gsn 8)) ++ f.data))) rfl ?_)
 refine za (zd (v := (S (((((beFrom (f.data.length : Int) 1) ++ (beFrom f.ep 4)) ++ (beFrom f.pl 8)) ++ (beFrom f.gsn 8)) ++ f.data))) rfl ?_)
 refine za (zk (vs := #[(S (((((beFrom (f.data.length : Int) 1) ++ (beFrom f.ep 4)) ++ (beFrom f.pl 8)) ++ (beFrom f.gsn 8)) ++ f.data))]) ca267 rfl (zF rfl) (reflaid_c hH21.all (((((beFrom (f.data.length : Int) 1) ++ (beFrom f.ep 4)) ++ (beFrom f.pl 8)) ++ (beFrom f.gsn 8)) ++ f.data) (by simp only [List.length_append, zD]; omega)) ?_)
 rintro _ w27 ⟨rfl, hX25⟩
 refine ⟨_, rfl, ?_⟩
 have hH26 := hX25.of_all
 refine za (o_sadd rfl rfl (by simp only [List.length_append, zD, laidS_len]; omega) ?_)
 refine za (ze (v := (S ((((((beFrom (f.data.length : Int) 1) ++ (beFrom f.ep 4)) ++ (beFrom f.pl 8)) ++ (beFrom f.gsn 8)) ++ f.data) ++ (laidS (crcS (((((beFrom (f.data.length : Int) 1) ++ (beFrom f.ep 4)) ++ (beFrom f.pl 8)) ++ (beFrom f.gsn 8)) ++ f.data)))))) rfl ?_)
 refine zf ?_
 refine zc (hK24 _ _ ?_)
 refine wp_ret ?_
 refine zq Tryz.results184  (v := (S ((((((beFrom (f.data.length : Int) 1) ++ (beFrom f.ep 4)) ++ (beFrom f.pl 8)) ++ (beFrom f.gsn 8)) ++ f.data) ++ (laidS (crcS (((((beFrom (f.data.length : Int) 1) ++ (beFrom f.ep 4)) ++ (beFrom f.pl 8)) ++ (beFrom f.gsn 8)) ++ f.data)))))) rfl ?_
 have hH28 : Has E w27 [R] := (hH26.front 1 rfl).first 1 rfl
 exact ⟨by rw [makeS_yes hr, sealS]; simp [headS], hH28⟩
set_option maxHeartbeats 4000000 in
theorem fref_c {E w : World} {R : List Hp} (hH : Has E w [R]) (s : List UInt8) (hsl : s.length ≤ 9000000000000000000) :
  Calls Tryz.prog 94 #[(S s)] w fun e w' => e = .returned (.tuple #[(.agg #[(.int .i64 (oF s).ep), (.int .i64 (oF s).pl), (.int .i64 (oF s).gsn), (S (oF s).data)]), .bool (opensB s)]) ∧ Has E w' [R] := by
 refine zs (args := [(S s)]) Tryz.func94 rfl Tryz.ntmps94 (by simp) ?_
 refine wp_seq_k fun K1 hK1 => ?_
 refine zb ?_
 refine za (zU (cs := #[(.int .i64 0), (.int .i64 0), (.int .i64 0), (S ([] : List UInt8))]) ti44 rfl hH fun b2 w3 hH4 => ?_)
 refine za (ze (v := (.bool false)) rfl ?_)
 refine zf ?_
 refine zc (hK1 _ _ ?_)
 refine wp_seq_k fun K5 hK5 => ?_
 refine wp_seq_k fun K6 hK6 => ?_
 refine zb ?_
 refine za (zd (v := (S s)) rfl ?_)
 refine za (yb Tryz.underlying9 rfl ?_)
 refine za (zL (a := (s.length : Int)) (b := 25) rfl rfl ?_)
 refine za (zd (v := (.bool (decide ((s.length : Int) < 25)))) rfl ?_)
 by_cases h7 : (s.length : Int) < 25
 ·
  refine zi (b' := true) 14 rfl (cT h7) rfl ?_
  refine zi (b' := true) 14 rfl (cT h7) rfl ?_
  refine zi (b' := true) 14 rfl (cT h7) rfl ?_
  refine zi (b' := true) 14 rfl (cT h7) rfl ?_
  refine zi (b' := true) 14 rfl (cT h7) rfl ?_
  refine zi (b' := true) 14 rfl (cT h7) rfl ?_
  refine zi (b' := true) 14 rfl (cT h7) rfl ?_
  refine za (zo (u := (.bool true)) ((rfl : _ = _).trans (cT h7)) rfl ?_)
  refine zf ?_
  refine zc (hK6 _ _ ?_)
  refine zN rfl rfl ?_
  refine wp_seq_k fun K8 hK8 => ?_
  refine zb ?_
  refine za (zK (v := (.agg #[(.int .i64 0), (.int .i64 0), (.int .i64 0), (S ([] : List UInt8))])) (fun _ => by kernel_rfl) ?_)
  refine zB (zw (vs := [(.int .i64 0), (.int .i64 0), (.int .i64 0), (S ([] : List UInt8))]) (c' := #[(.int .i64 0), (.int .i64 0), (.int .i64 0), (S ([] : List UInt8))]) ti44 rfl rfl rfl rfl (by intro u hu; simp only [List.mem_cons, List.not_mem_nil, or_false] at hu; rcases hu with rfl | rfl | rfl | rfl <;> first | rfl) (by simp) (by kernel_rfl) (hH4.front 0 rfl) fun w9 hH10 => ?_)
  refine za (ze (v := (.bool false)) rfl ?_)
  refine zf ?_
  refine zc (hK8 _ _ ?_)
  refine wp_ret ?_
  refine zv (zZ Tryz.results94 rfl (zy (cs := [(.int .i64 0), (.int .i64 0), (.int .i64 0), (S ([] : List UInt8))]) Tryz.underlying44 rfl ti44 hH10 (zh 0 rfl) (CellsAt.one rfl)) (x := (.bool false)) rfl ?_)
  have hH11 : Has E w9 [R] := (hH10.front 1 rfl).first 1 rfl
  have ho : opensB s = false := opens_short (by omega)
  exact ⟨by unfold oF; rw [ho]; rfl, hH11⟩
 ·
  refine zn 14 rfl (cF h7) (zd (v := (S s)) rfl ?_)
  refine zn 14 rfl (cF h7) (yb Tryz.underlying9 rfl ?_)
  refine zn 14 rfl (cF h7) (zd (v := (S s)) rfl ?_)
  obtain ⟨c12, hx13⟩ : ∃ x_, s[((0 : Int)).toNat]? = some x_ := zM (by omega)
  have c12_lt := c12.toNat_lt
  refine zn 14 rfl (cF h7) (o_sidx Tryz.underlying9 rfl rfl (by omega) hx13 ?_)
  refine zn 14 rfl (cF h7) (ya Tryz.underlying5 Tryz.underlying3 rfl (w_u8 _) ?_)
  refine zn 14 rfl (cF h7) (zH (a := 25) (b := (c12.toNat : Int)) rfl rfl (w64 (by omega) (by omega)) ?_)
  refine zn 14 rfl (cF h7) (zL (a := (s.length : Int)) (b := 25 + (c12.toNat : Int)) rfl rfl ?_)
  refine za (zm (u := (.bool (decide ((s.length : Int) < 25 + (c12.toNat : Int))))) ((rfl : _ = _).trans (cF h7)) rfl ?_)
  refine zf ?_
  refine zc (hK6 _ _ ?_)
  refine zt rfl (fun h14 => ?_) (fun h14 => ?_)
  ·
   refine wp_seq_k fun K15 hK15 => ?_
   refine zb ?_
   refine za (zK (v := (.agg #[(.int .i64 0), (.int .i64 0), (.int .i64 0), (S ([] : List UInt8))])) (fun _ => by kernel_rfl) ?_)
   refine zB (zw (vs := [(.int .i64 0), (.int .i64 0), (.int .i64 0), (S ([] : List UInt8))]) (c' := #[(.int .i64 0), (.int .i64 0), (.int .i64 0), (S ([] : List UInt8))]) ti44 rfl rfl rfl rfl (by intro u hu; simp only [List.mem_cons, List.not_mem_nil, or_false] at hu; rcases hu with rfl | rfl | rfl | rfl <;> first | rfl) (by simp) (by kernel_rfl) (hH4.front 0 rfl) fun w16 hH17 => ?_)
   refine za (ze (v := (.bool false)) rfl ?_)
   refine zf ?_
   refine zc (hK15 _ _ ?_)
   refine wp_ret ?_
   refine zv (zZ Tryz.results94 rfl (zy (cs := [(.int .i64 0), (.int .i64 0), (.int .i64 0), (S ([] : List UInt8))]) Tryz.underlying44 rfl ti44 hH17 (zh 0 rfl) (CellsAt.one rfl)) (x := (.bool false)) rfl ?_)
   have hH18 : Has E w16 [R] := (hH17.front 1 rfl).first 1 rfl
   have ho : opensB s = false := opens_short2 hx13 (by omega)
   exact ⟨by unfold oF; rw [ho]; rfl, hH18⟩
  ·
   refine wp_skip ?_
   refine zc (hK5 _ _ ?_)
   refine wp_seq_k fun K19 hK19 => ?_
   refine zb ?_
   refine za (zd (v := (S s)) rfl ?_)
   refine za (zd (v := (S s)) rfl ?_)
   refine za (o_sidx Tryz.underlying9 rfl rfl (by omega) hx13 ?_)
   refine za (ya Tryz.underlying5 Tryz.underlying3 rfl (w_u8 _) ?_)
   refine za (zH (a := 21) (b := (c12.toNat : Int)) rfl rfl (w64 (by omega) (by omega)) ?_)
   refine za (o_ssl Tryz.underlying9 rfl rfl rfl (by omega) (by omega) (by omega) ?_)
   have hdl : ((s.take (21 + (c12.toNat : Int)).toNat).drop 21).length = c12.toNat := by rw [List.length_drop, List.length_take]; omega
   refine za (zK (v := (.agg #[(.int .i64 0), (.int .i64 0), (.int .i64 0), (S ((s.take (21 + (c12.toNat : Int)).toNat).drop 21))])) (fun _ => by kernel_rfl) ?_)
   refine za (zU (cs := #[(.int .i64 0), (.int .i64 0), (.int .i64 0), (S ([] : List UInt8))]) ti44 rfl hH4 fun b20 w21 hH22 => ?_)
   refine zB (zw (vs := [(.int .i64 0), (.int .i64 0), (.int .i64 0), (S ((s.take (21 + (c12.toNat : Int)).toNat).drop 21))]) (c' := #[(.int .i64 0), (.int .i64 0), (.int .i64 0), (S ((s.take (21 + (c12.toNat : Int)).toNat).drop 21))]) ti44 rfl rfl rfl rfl (by intro u hu; simp only [List.mem_cons, List.not_mem_nil, or_false] at hu; rcases hu with rfl | rfl | rfl | rfl <;> first | rfl) (by simp) (by kernel_rfl) (hH22.front 0 rfl) fun w23 hH24 => ?_)
   refine zf ?_
   refine zc (hK19 _ _ ?_)
   refine wp_seq_k fun K25 hK25 => ?_
   refine zb ?_
   refine za (zd (v := (S s)) rfl ?_)
   refine za (o_ssl_l Tryz.underlying9 rfl rfl (by omega) (by omega) ?_)
   refine za (zk (vs := #[(S (s.drop 1)), (.int .i64 4)]) ca182 rfl (zI rfl rfl) (refTake_c hH24.all 4 (s.drop 1) (by simp only [List.length_drop]; omega)) ?_)
   rintro _ w28 ⟨rfl, hX26⟩
   refine ⟨_, rfl, ?_⟩
   have hH27 := hX26.of_all
   refine za (zd (v := (.tuple #[(.int .i64 ((takeS (s.drop 1) 4).1)), (.bool ((takeS (s.drop 1) 4).2.2))])) rfl ?_)
   refine za (zp (v := (.int .i64 ((takeS (s.drop 1) 4).1))) rfl rfl ?_)
   refine za (zp (v := (.bool ((takeS (s.drop 1) 4).2.2))) rfl rfl ?_)
   refine za (ze (v := (.int .i64 ((takeS (s.drop 1) 4).1))) rfl ?_)
   refine za (ze (v := (.bool ((takeS (s.drop 1) 4).2.2))) rfl ?_)
   refine zf ?_
   refine zc (hK25 _ _ ?_)
   refine wp_seq_k fun K29 hK29 => ?_
   refine zb ?_
   refine za (zd (v := (S s)) rfl ?_)
   refine za (o_ssl_l Tryz.underlying9 rfl rfl (by omega) (by omega) ?_)
   refine za (zk (vs := #[(S (s.drop 5)), (.int .i64 8)]) ca182 rfl (zI rfl rfl) (refTake_c hH27.all 8 (s.drop 5) (by simp only [List.length_drop]; omega)) ?_)
   rintro _ w32 ⟨rfl, hX30⟩
   refine ⟨_, rfl, ?_⟩
   have hH31 := hX30.of_all
   refine za (zd (v := (.tuple #[(.int .i64 ((takeS (s.drop 5) 8).1)), (.bool ((takeS (s.drop 5) 8).2.2))])) rfl ?_)
   refine za (zp (v := (.int .i64 ((takeS (s.drop 5) 8).1))) rfl rfl ?_)
   refine za (zp (v := (.bool ((takeS (s.drop 5) 8).2.2))) rfl rfl ?_)
   refine za (ze (v := (.int .i64 ((takeS (s.drop 5) 8).1))) rfl ?_)
   refine za (ze (v := (.bool ((takeS (s.drop 5) 8).2.2))) rfl ?_)
   refine zf ?_
   refine zc (hK29 _ _ ?_)
   refine wp_seq_k fun K33 hK33 => ?_
   refine zb ?_
   refine za (zd (v := (S s)) rfl ?_)
   refine za (o_ssl_l Tryz.underlying9 rfl rfl (by omega) (by omega) ?_)
   refine za (zk (vs := #[(S (s.drop 13)), (.int .i64 8)]) ca182 rfl (zI rfl rfl) (refTake_c hH31.all 8 (s.drop 13) (by simp only [List.length_drop]; omega)) ?_)
   rintro _ w36 ⟨rfl, hX34⟩
   refine ⟨_, rfl, ?_⟩
   have hH35 := hX34.of_all
   refine za (zd (v := (.tuple #[(.int .i64 ((takeS (s.drop 13) 8).1)), (.bool ((takeS (s.drop 13) 8).2.2))])) rfl ?_)
   refine za (zp (v := (.int .i64 ((takeS (s.drop 13) 8).1))) rfl rfl ?_)
   refine za (zp (v := (.bool ((takeS (s.drop 13) 8).2.2))) rfl rfl ?_)
   refine za (ze (v := (.int .i64 ((takeS (s.drop 13) 8).1))) rfl ?_)
   refine za (ze (v := (.bool ((takeS (s.drop 13) 8).2.2))) rfl ?_)
   refine zf ?_
   refine zc (hK33 _ _ ?_)
   refine wp_seq_k fun K37 hK37 => ?_
   refine zb ?_
   refine za (zd (v := (.int .i64 ((takeS (s.drop 1) 4).1))) rfl ?_)
   refine za (zg (k := 0) (fun _ => by kernel_rfl) rfl ?_)
   refine zB (zJ (c' := #[(.int .i64 ((takeS (s.drop 1) 4).1)), (.int .i64 0), (.int .i64 0), (S ((s.take (21 + (c12.toNat : Int)).toNat).drop 21))]) ti3 rfl rfl rfl (by simp) rfl (hH35.front 0 rfl) fun w38 hH39 => ?_)
   refine zf ?_
   refine zc (hK37 _ _ ?_)
   refine wp_seq_k fun K40 hK40 => ?_
   refine zb ?_
   refine za (zd (v := (.int .i64 ((takeS (s.drop 5) 8).1))) rfl ?_)
   refine za (zg (k := 1) (fun _ => by kernel_rfl) rfl ?_)
   refine zB (zJ (c' := #[(.int .i64 ((takeS (s.drop 1) 4).1)), (.int .i64 ((takeS (s.drop 5) 8).1)), (.int .i64 0), (S ((s.take (21 + (c12.toNat : Int)).toNat).drop 21))]) ti3 rfl rfl rfl (by simp) rfl (hH39.front 0 rfl) fun w41 hH42 => ?_)
   refine zf ?_
   refine zc (hK40 _ _ ?_)
   refine wp_seq_k fun K43 hK43 => ?_
   refine zb ?_
   refine za (zd (v := (.int .i64 ((takeS (s.drop 13) 8).1))) rfl ?_)
   refine za (zg (k := 2) (fun _ => by kernel_rfl) rfl ?_)
   refine zB (zJ (c' := #[(.int .i64 ((takeS (s.drop 1) 4).1)), (.int .i64 ((takeS (s.drop 5) 8).1)), (.int .i64 ((takeS (s.drop 13) 8).1)), (S ((s.take (21 + (c12.toNat : Int)).toNat).drop 21))]) ti3 rfl rfl rfl (by simp) rfl (hH42.front 0 rfl) fun w44 hH45 => ?_)
   refine zf ?_
   refine zc (hK43 _ _ ?_)
   refine wp_seq_k fun K46 hK46 => ?_
   refine wp_seq_k fun K47 hK47 => ?_
   refine Rest.region mixed (by kernel_rfl) ?_
   have hH48 : Has E { w44 with drawn := w44.drawn + 1 } [[Hp.one b20 (.cells #[(.int .i64 ((takeS (s.drop 1) 4).1)), (.int .i64 ((takeS (s.drop 5) 8).1)), (.int .i64 ((takeS (s.drop 13) 8).1)), (S ((s.take (21 + (c12.toNat : Int)).toNat).drop 21))] 44 (0, 0))], [Hp.one b2 (.cells #[(.int .i64 0), (.int .i64 0), (.int .i64 0), (S ([] : List UInt8))] 44 (0, 0))], R] := Has0.drew hH45 _
   refine zP 0 rfl (by kernel_rfl) (zd (v := (.bool ((takeS (s.drop 5) 8).2.2))) rfl ?_)
   refine zP 1 rfl (by kernel_rfl) (o_not rfl ?_)
   refine zP 2 rfl (by kernel_rfl) (zd (v := (.bool (!((takeS (s.drop 5) 8).2.2)))) rfl ?_)
   rcases Bool.eq_false_or_eq_true (!((takeS (s.drop 5) 8).2.2)) with h49 | h49
   ·
    refine r_off (b' := true) 3 rfl (by kernel_rfl) 57 rfl (congrArg Value.bool h49) rfl ?_
    refine r_off (b' := true) 4 rfl (by kernel_rfl) 57 rfl (congrArg Value.bool h49) rfl ?_
    refine zP 5 rfl (by kernel_rfl) (zo (u := (.bool true)) ((rfl : _ = _).trans (congrArg Value.bool h49)) rfl ?_)
    refine zP 6 rfl (by kernel_rfl) (zd (v := (.bool true)) rfl ?_)
    refine r_off (b' := true) 7 rfl (by kernel_rfl) 61 rfl rfl rfl ?_
    refine r_off (b' := true) 8 rfl (by kernel_rfl) 61 rfl rfl rfl ?_
    refine r_off (b' := true) 9 rfl (by kernel_rfl) 61 rfl rfl rfl ?_
    refine zP 10 rfl (by kernel_rfl) (zo (u := (.bool true)) rfl rfl ?_)
    refine zP 11 rfl (by kernel_rfl) (zd (v := (.bool true)) rfl ?_)
    refine Rest.phaseA (fun w_ => Has E w_ []) 12 20 8 rfl (by decide) (by kernel_rfl) ?_
    refine yf (b' := true) 12 rfl (by kernel_rfl) 66 rfl rfl rfl ?_
    refine yf (b' := true) 14 rfl (by kernel_rfl) 66 rfl rfl rfl ?_
    refine yf (b' := true) 15 rfl (by kernel_rfl) 66 rfl rfl rfl ?_
    refine yf (b' := true) 16 rfl (by kernel_rfl) 66 rfl rfl rfl ?_
    refine yf (b' := true) 17 rfl (by kernel_rfl) 66 rfl rfl rfl ?_
    refine yf (b' := true) 18 rfl (by kernel_rfl) 66 rfl rfl rfl ?_
    refine yf (b' := true) 19 rfl (by kernel_rfl) 66 rfl rfl rfl ?_
    refine yf (b' := true) 13 rfl (by kernel_rfl) 66 rfl rfl rfl ?_
    have hH50 : Has E { w44 with drawn := w44.drawn + 1 } [] := hH48.first 0 rfl
    refine zQ (by kernel_rfl) hH50 ?_
    refine r_off (b' := true) 20 rfl (by kernel_rfl) 66 rfl rfl rfl ?_
    refine zP 21 rfl (by kernel_rfl) (zo (u := (.bool true)) rfl rfl ?_)
    refine Rest.done (by kernel_rfl) ?_
    refine zc (hK47 _ _ ?_)
    refine zN rfl rfl ?_
    refine wp_seq_k fun K51 hK51 => ?_
    refine zb ?_
    refine za (zK (v := (.agg #[(.int .i64 0), (.int .i64 0), (.int .i64 0), (S ([] : List UInt8))])) (fun _ => by kernel_rfl) ?_)
    refine zB (zw (vs := [(.int .i64 0), (.int .i64 0), (.int .i64 0), (S ([] : List UInt8))]) (c' := #[(.int .i64 0), (.int .i64 0), (.int .i64 0), (S ([] : List UInt8))]) ti44 rfl rfl rfl rfl (by intro u hu; simp only [List.mem_cons, List.not_mem_nil, or_false] at hu; rcases hu with rfl | rfl | rfl | rfl <;> first | rfl) (by simp) (by kernel_rfl) (hH48.front 1 rfl) fun w52 hH53 => ?_)
    refine za (ze (v := (.bool false)) rfl ?_)
    refine zf ?_
    refine zc (hK51 _ _ ?_)
    refine wp_ret ?_
    refine zv (zZ Tryz.results94 rfl (zy (cs := [(.int .i64 0), (.int .i64 0), (.int .i64 0), (S ([] : List UInt8))]) Tryz.underlying44 rfl ti44 hH53 (zh 0 rfl) (CellsAt.one rfl)) (x := (.bool false)) rfl ?_)
    have hH54 : Has E w52 [R] := (hH53.front 2 rfl).first 1 rfl
    have ho : opensB s = false := ref_no hx13 (by omega) (by omega) (.inl (not_t h49))
    exact ⟨by unfold oF; rw [ho]; rfl, hH54⟩
   ·
    refine r_on 3 rfl (by kernel_rfl) 57 rfl (congrArg Value.bool h49) (zd (v := (.bool ((takeS (s.drop 13) 8).2.2))) rfl ?_)
    refine r_on 4 rfl (by kernel_rfl) 57 rfl (congrArg Value.bool h49) (o_not rfl ?_)
    refine zP 5 rfl (by kernel_rfl) (zm (u := (.bool (!((takeS (s.drop 13) 8).2.2)))) ((rfl : _ = _).trans (congrArg Value.bool h49)) rfl ?_)
    refine zP 6 rfl (by kernel_rfl) (zd (v := (.bool (!((takeS (s.drop 13) 8).2.2)))) rfl ?_)
    rcases Bool.eq_false_or_eq_true (!((takeS (s.drop 13) 8).2.2)) with h55 | h55
    ·
     refine r_off (b' := true) 7 rfl (by kernel_rfl) 61 rfl (congrArg Value.bool h55) rfl ?_
     refine r_off (b' := true) 8 rfl (by kernel_rfl) 61 rfl (congrArg Value.bool h55) rfl ?_
     refine r_off (b' := true) 9 rfl (by kernel_rfl) 61 rfl (congrArg Value.bool h55) rfl ?_
     refine zP 10 rfl (by kernel_rfl) (zo (u := (.bool true)) ((rfl : _ = _).trans (congrArg Value.bool h55)) rfl ?_)
     refine zP 11 rfl (by kernel_rfl) (zd (v := (.bool true)) rfl ?_)
     refine Rest.phaseA (fun w_ => Has E w_ []) 12 20 8 rfl (by decide) (by kernel_rfl) ?_
     refine yf (b' := true) 12 rfl (by kernel_rfl) 66 rfl rfl rfl ?_
     refine yf (b' := true) 14 rfl (by kernel_rfl) 66 rfl rfl rfl ?_
     refine yf (b' := true) 15 rfl (by kernel_rfl) 66 rfl rfl rfl ?_
     refine yf (b' := true) 16 rfl (by kernel_rfl) 66 rfl rfl rfl ?_
     refine yf (b' := true) 17 rfl (by kernel_rfl) 66 rfl rfl rfl ?_
     refine yf (b' := true) 18 rfl (by kernel_rfl) 66 rfl rfl rfl ?_
     refine yf (b' := true) 19 rfl (by kernel_rfl) 66 rfl rfl rfl ?_
     refine yf (b' := true) 13 rfl (by kernel_rfl) 66 rfl rfl rfl ?_
     have hH56 : Has E { w44 with drawn := w44.drawn + 1 } [] := hH48.first 0 rfl
     refine zQ (by kernel_rfl) hH56 ?_
     refine r_off (b' := true) 20 rfl (by kernel_rfl) 66 rfl rfl rfl ?_
     refine zP 21 rfl (by kernel_rfl) (zo (u := (.bool true)) rfl rfl ?_)
     refine Rest.done (by kernel_rfl) ?_
     refine zc (hK47 _ _ ?_)
     refine zN rfl rfl ?_
     refine wp_seq_k fun K57 hK57 => ?_
     refine zb ?_
     refine za (zK (v := (.agg #[(.int .i64 0), (.int .i64 0), (.int .i64 0), (S ([] : List UInt8))])) (fun _ => by kernel_rfl) ?_)
     refine zB (zw (vs := [(.int .i64 0), (.int .i64 0), (.int .i64 0), (S ([] : List UInt8))]) (c' := #[(.int .i64 0), (.int .i64 0), (.int .i64 0), (S ([] : List UInt8))]) ti44 rfl rfl rfl rfl (by intro u hu; simp only [List.mem_cons, List.not_mem_nil, or_false] at hu; rcases hu with rfl | rfl | rfl | rfl <;> first | rfl) (by simp) (by kernel_rfl) (hH48.front 1 rfl) fun w58 hH59 => ?_)
     refine za (ze (v := (.bool false)) rfl ?_)
     refine zf ?_
     refine zc (hK57 _ _ ?_)
     refine wp_ret ?_
     refine zv (zZ Tryz.results94 rfl (zy (cs := [(.int .i64 0), (.int .i64 0), (.int .i64 0), (S ([] : List UInt8))]) Tryz.underlying44 rfl ti44 hH59 (zh 0 rfl) (CellsAt.one rfl)) (x := (.bool false)) rfl ?_)
     have hH60 : Has E w58 [R] := (hH59.front 2 rfl).first 1 rfl
     have ho : opensB s = false := ref_no hx13 (by omega) (by omega) (.inr (.inl (not_t h55)))
     exact ⟨by unfold oF; rw [ho]; rfl, hH60⟩
    ·
     refine r_on 7 rfl (by kernel_rfl) 61 rfl (congrArg Value.bool h55) (zC (cs := [(.int .i64 ((takeS (s.drop 1) 4).1)), (.int .i64 ((takeS (s.drop 5) 8).1)), (.int .i64 ((takeS (s.drop 13) 8).1)), (S ((s.take (21 + (c12.toNat : Int)).toNat).drop 21))]) Tryz.underlying44 rfl ti44 rfl hH48 (zh 0 rfl) (CellsAt.one rfl) ?_)
     refine r_on 8 rfl (by kernel_rfl) 61 rfl (congrArg Value.bool h55) (zk (vs := #[(.agg #[(.int .i64 ((takeS (s.drop 1) 4).1)), (.int .i64 ((takeS (s.drop 5) 8).1)), (.int .i64 ((takeS (s.drop 13) 8).1)), (S ((s.take (21 + (c12.toNat : Int)).toNat).drop 21))])]) ca183 rfl (zF rfl) (refright_c hH48.all (Fr.mk ((takeS (s.drop 1) 4).1) ((takeS (s.drop 5) 8).1) ((takeS (s.drop 13) 8).1) ((s.take (21 + (c12.toNat : Int)).toNat).drop 21)) (by simp only [List.length_drop, List.length_take]; omega)) ?_)
     rintro _ w63 ⟨rfl, hX61⟩
     refine ⟨_, rfl, ?_⟩
     have hH62 := hX61.of_all
     refine r_on 9 rfl (by kernel_rfl) 61 rfl (congrArg Value.bool h55) (o_not rfl ?_)
     refine zP 10 rfl (by kernel_rfl) (zm (u := (.bool (!(rightS (Fr.mk ((takeS (s.drop 1) 4).1) ((takeS (s.drop 5) 8).1) ((takeS (s.drop 13) 8).1) ((s.take (21 + (c12.toNat : Int)).toNat).drop 21)))))) ((rfl : _ = _).trans (congrArg Value.bool h55)) rfl ?_)
     refine zP 11 rfl (by kernel_rfl) (zd (v := (.bool (!(rightS (Fr.mk ((takeS (s.drop 1) 4).1) ((takeS (s.drop 5) 8).1) ((takeS (s.drop 13) 8).1) ((s.take (21 + (c12.toNat : Int)).toNat).drop 21)))))) rfl ?_)
     refine Rest.phaseA (fun w_ => Has E w_ [[Hp.one b20 (.cells #[(.int .i64 ((takeS (s.drop 1) 4).1)), (.int .i64 ((takeS (s.drop 5) 8).1)), (.int .i64 ((takeS (s.drop 13) 8).1)), (S ((s.take (21 + (c12.toNat : Int)).toNat).drop 21))] 44 (0, 0))]]) 12 20 8 rfl (by decide) (by kernel_rfl) ?_
     rcases Bool.eq_false_or_eq_true (!(rightS (Fr.mk ((takeS (s.drop 1) 4).1) ((takeS (s.drop 5) 8).1) ((takeS (s.drop 13) 8).1) ((s.take (21 + (c12.toNat : Int)).toNat).drop 21)))) with h64 | h64
     ·
      refine yf (b' := true) 12 rfl (by kernel_rfl) 66 rfl (congrArg Value.bool h64) rfl ?_
      refine yf (b' := true) 14 rfl (by kernel_rfl) 66 rfl (congrArg Value.bool h64) rfl ?_
      refine yf (b' := true) 15 rfl (by kernel_rfl) 66 rfl (congrArg Value.bool h64) rfl ?_
      refine yf (b' := true) 16 rfl (by kernel_rfl) 66 rfl (congrArg Value.bool h64) rfl ?_
      refine yf (b' := true) 17 rfl (by kernel_rfl) 66 rfl (congrArg Value.bool h64) rfl ?_
      refine yf (b' := true) 18 rfl (by kernel_rfl) 66 rfl (congrArg Value.bool h64) rfl ?_
      refine yf (b' := true) 19 rfl (by kernel_rfl) 66 rfl (congrArg Value.bool h64) rfl ?_
      refine yf (b' := true) 13 rfl (by kernel_rfl) 66 rfl (congrArg Value.bool h64) rfl ?_
      have hH65 : Has E w63 [[Hp.one b20 (.cells #[(.int .i64 ((takeS (s.drop 1) 4).1)), (.int .i64 ((takeS (s.drop 5) 8).1)), (.int .i64 ((takeS (s.drop 13) 8).1)), (S ((s.take (21 + (c12.toNat : Int)).toNat).drop 21))] 44 (0, 0))]] := hH62.first 1 rfl
      refine zQ (by kernel_rfl) hH65 ?_
      refine r_off (b' := true) 20 rfl (by kernel_rfl) 66 rfl (congrArg Value.bool h64) rfl ?_
      refine zP 21 rfl (by kernel_rfl) (zo (u := (.bool true)) ((rfl : _ = _).trans (congrArg Value.bool h64)) rfl ?_)
      refine Rest.done (by kernel_rfl) ?_
      refine zc (hK47 _ _ ?_)
      refine zN rfl rfl ?_
      refine wp_seq_k fun K66 hK66 => ?_
      refine zb ?_
      refine za (zK (v := (.agg #[(.int .i64 0), (.int .i64 0), (.int .i64 0), (S ([] : List UInt8))])) (fun _ => by kernel_rfl) ?_)
      refine zB (zw (vs := [(.int .i64 0), (.int .i64 0), (.int .i64 0), (S ([] : List UInt8))]) (c' := #[(.int .i64 0), (.int .i64 0), (.int .i64 0), (S ([] : List UInt8))]) ti44 rfl rfl rfl rfl (by intro u hu; simp only [List.mem_cons, List.not_mem_nil, or_false] at hu; rcases hu with rfl | rfl | rfl | rfl <;> first | rfl) (by simp) (by kernel_rfl) (hH62.front 1 rfl) fun w67 hH68 => ?_)
      refine za (ze (v := (.bool false)) rfl ?_)
      refine zf ?_
      refine zc (hK66 _ _ ?_)
      refine wp_ret ?_
      refine zv (zZ Tryz.results94 rfl (zy (cs := [(.int .i64 0), (.int .i64 0), (.int .i64 0), (S ([] : List UInt8))]) Tryz.underlying44 rfl ti44 hH68 (zh 0 rfl) (CellsAt.one rfl)) (x := (.bool false)) rfl ?_)
      have hH69 : Has E w67 [R] := (hH68.front 2 rfl).first 1 rfl
      have ho : opensB s = false := ref_no hx13 (by omega) (by omega) (.inr (.inr (.inl (not_t h64))))
      exact ⟨by unfold oF; rw [ho]; rfl, hH69⟩
     ·
      refine a_on 12 rfl (by kernel_rfl) 66 rfl (congrArg Value.bool h64) (fun w_ h_ => zC (cs := [(.int .i64 ((takeS (s.drop 1) 4).1)), (.int .i64 ((takeS (s.drop 5) 8).1)), (.int .i64 ((takeS (s.drop 13) 8).1)), (S ((s.take (21 + (c12.toNat : Int)).toNat).drop 21))]) Tryz.underlying44 rfl ti44 rfl h_ (zh 0 rfl) (CellsAt.one rfl) ⟨rfl, rfl⟩) ?_
      refine a_on 14 rfl (by kernel_rfl) 66 rfl (congrArg Value.bool h64) (fun w_ h_ => zd (v := (S s)) rfl ⟨rfl, rfl⟩) ?_
      refine a_on 15 rfl (by kernel_rfl) 66 rfl (congrArg Value.bool h64) (fun w_ h_ => zg (k := 3) (fun _ => by kernel_rfl) rfl ⟨rfl, rfl⟩) ?_
      refine a_on 16 rfl (by kernel_rfl) 66 rfl (congrArg Value.bool h64) (fun w_ h_ => zj (v := (S ((s.take (21 + (c12.toNat : Int)).toNat).drop 21))) Tryz.underlying9 rfl rfl h_ (zh 0 rfl) (CellsAt.one rfl) ⟨rfl, rfl⟩) ?_
      refine a_on 17 rfl (by kernel_rfl) 66 rfl (congrArg Value.bool h64) (fun w_ h_ => yb Tryz.underlying9 rfl ⟨rfl, rfl⟩) ?_
      refine a_on 18 rfl (by kernel_rfl) 66 rfl (congrArg Value.bool h64) (fun w_ h_ => zH (a := 25) (b := (((s.take (21 + (c12.toNat : Int)).toNat).drop 21).length : Int)) rfl rfl (w64 (by omega) (by omega)) ⟨rfl, rfl⟩) ?_
      refine a_on 19 rfl (by kernel_rfl) 66 rfl (congrArg Value.bool h64) (fun w_ h_ => o_ssl_h Tryz.underlying9 rfl rfl (by omega) (by omega) ⟨rfl, rfl⟩) ?_
      have hH70 : Has E w63 [[Hp.one b20 (.cells #[(.int .i64 ((takeS (s.drop 1) 4).1)), (.int .i64 ((takeS (s.drop 5) 8).1)), (.int .i64 ((takeS (s.drop 13) 8).1)), (S ((s.take (21 + (c12.toNat : Int)).toNat).drop 21))] 44 (0, 0))]] := hH62.first 1 rfl
      refine a_won 13 rfl (by kernel_rfl) hH70 66 rfl (congrArg Value.bool h64) (zk (vs := #[(.agg #[(.int .i64 ((takeS (s.drop 1) 4).1)), (.int .i64 ((takeS (s.drop 5) 8).1)), (.int .i64 ((takeS (s.drop 13) 8).1)), (S ((s.take (21 + (c12.toNat : Int)).toNat).drop 21))])]) ca184 rfl (zF rfl) (refmake_c hH62.all (Fr.mk ((takeS (s.drop 1) 4).1) ((takeS (s.drop 5) 8).1) ((takeS (s.drop 13) 8).1) ((s.take (21 + (c12.toNat : Int)).toNat).drop 21)) (by simp only [List.length_drop, List.length_take]; omega) (not_f h64)) ?_)
      rintro _ w73 ⟨rfl, hX71⟩
      refine ⟨_, rfl, ?_⟩
      have hH72 := hX71.of_all
      have hH74 : Has E w73 [[Hp.one b20 (.cells #[(.int .i64 ((takeS (s.drop 1) 4).1)), (.int .i64 ((takeS (s.drop 5) 8).1)), (.int .i64 ((takeS (s.drop 13) 8).1)), (S ((s.take (21 + (c12.toNat : Int)).toNat).drop 21))] 44 (0, 0))]] := hH72.first 1 rfl
      refine zQ (by kernel_rfl) hH74 ?_
      refine r_on 20 rfl (by kernel_rfl) 66 rfl (congrArg Value.bool h64) (o_sneq (a := (makeS (Fr.mk ((takeS (s.drop 1) 4).1) ((takeS (s.drop 5) 8).1) ((takeS (s.drop 13) 8).1) ((s.take (21 + (c12.toNat : Int)).toNat).drop 21)))) (b := s.take (25 + (((s.take (21 + (c12.toNat : Int)).toNat).drop 21).length : Int)).toNat) rfl rfl ?_)
      refine zP 21 rfl (by kernel_rfl) (zm (u := (.bool (decide ((makeS (Fr.mk ((takeS (s.drop 1) 4).1) ((takeS (s.drop 5) 8).1) ((takeS (s.drop 13) 8).1) ((s.take (21 + (c12.toNat : Int)).toNat).drop 21))) ≠ s.take (25 + (((s.take (21 + (c12.toNat : Int)).toNat).drop 21).length : Int)).toNat)))) ((rfl : _ = _).trans (congrArg Value.bool h64)) rfl ?_)
      refine Rest.done (by kernel_rfl) ?_
      refine zc (hK47 _ _ ?_)
      refine zt rfl (fun h75 => ?_) (fun h75 => ?_)
      ·
       refine wp_seq_k fun K76 hK76 => ?_
       refine zb ?_
       refine za (zK (v := (.agg #[(.int .i64 0), (.int .i64 0), (.int .i64 0), (S ([] : List UInt8))])) (fun _ => by kernel_rfl) ?_)
       refine zB (zw (vs := [(.int .i64 0), (.int .i64 0), (.int .i64 0), (S ([] : List UInt8))]) (c' := #[(.int .i64 0), (.int .i64 0), (.int .i64 0), (S ([] : List UInt8))]) ti44 rfl rfl rfl rfl (by intro u hu; simp only [List.mem_cons, List.not_mem_nil, or_false] at hu; rcases hu with rfl | rfl | rfl | rfl <;> first | rfl) (by simp) (by kernel_rfl) (hH72.front 1 rfl) fun w77 hH78 => ?_)
       refine za (ze (v := (.bool false)) rfl ?_)
       refine zf ?_
       refine zc (hK76 _ _ ?_)
       refine wp_ret ?_
       refine zv (zZ Tryz.results94 rfl (zy (cs := [(.int .i64 0), (.int .i64 0), (.int .i64 0), (S ([] : List UInt8))]) Tryz.underlying44 rfl ti44 hH78 (zh 0 rfl) (CellsAt.one rfl)) (x := (.bool false)) rfl ?_)
       have hH79 : Has E w77 [R] := (hH78.front 2 rfl).first 1 rfl
       have ho : opensB s = false := ref_no hx13 (by omega) (by omega) (.inr (.inr (.inr h75)))
       exact ⟨by unfold oF; rw [ho]; rfl, hH79⟩
      ·
       refine wp_skip ?_
       refine zc (hK46 _ _ ?_)
       refine wp_seq_k fun K80 hK80 => ?_
       refine zb ?_
       refine za (zC (cs := [(.int .i64 ((takeS (s.drop 1) 4).1)), (.int .i64 ((takeS (s.drop 5) 8).1)), (.int .i64 ((takeS (s.drop 13) 8).1)), (S ((s.take (21 + (c12.toNat : Int)).toNat).drop 21))]) Tryz.underlying44 rfl ti44 rfl hH72 (zh 0 rfl) (CellsAt.one rfl) ?_)
       refine zB (zw (vs := [(.int .i64 ((takeS (s.drop 1) 4).1)), (.int .i64 ((takeS (s.drop 5) 8).1)), (.int .i64 ((takeS (s.drop 13) 8).1)), (S ((s.take (21 + (c12.toNat : Int)).toNat).drop 21))]) (c' := #[(.int .i64 ((takeS (s.drop 1) 4).1)), (.int .i64 ((takeS (s.drop 5) 8).1)), (.int .i64 ((takeS (s.drop 13) 8).1)), (S ((s.take (21 + (c12.toNat : Int)).toNat).drop 21))]) ti44 rfl rfl rfl rfl (by intro u hu; simp only [List.mem_cons, List.not_mem_nil, or_false] at hu; rcases hu with rfl | rfl | rfl | rfl <;> first | rfl) (by simp) (by kernel_rfl) (hH72.front 1 rfl) fun w81 hH82 => ?_)
       refine za (ze (v := (.bool true)) rfl ?_)
       refine zf ?_
       refine zc (hK80 _ _ ?_)
       refine wp_ret ?_
       refine zZ Tryz.results94 rfl (zy (cs := [(.int .i64 ((takeS (s.drop 1) 4).1)), (.int .i64 ((takeS (s.drop 5) 8).1)), (.int .i64 ((takeS (s.drop 13) 8).1)), (S ((s.take (21 + (c12.toNat : Int)).toNat).drop 21))]) Tryz.underlying44 rfl ti44 hH82 (zh 0 rfl) (CellsAt.one rfl)) (x := (.bool true)) rfl ?_
       have hH83 : Has E w81 [R] := (hH82.front 2 rfl).first 1 rfl
       have ho : opensB s = true := ref_yes hx13 (by omega) (by omega) (not_f h49) (not_f h55) (not_f h64) (Classical.not_not.1 h75)
       have hq := (ref_opens hx13 (by omega) (by omega)).2 ho
       exact ⟨by unfold oF; rw [if_pos ho, ho, hq.1]; rfl, hH83⟩
set_option maxHeartbeats 4000000 in
theorem reffits_c {E w : World} {R : List Hp} (hH : Has E w [R]) (f : Fr) (hfl : f.data.length ≤ 9223372036854775807) (re rc pl ab : Int) :
  Calls Tryz.prog 95 #[(.int .i64 re), (.int .i64 rc), (.agg #[(.int .i64 f.ep), (.int .i64 f.pl), (.int .i64 f.gsn), (S f.data)]), (.int .i64 pl), (.int .i64 ab)] w fun e w' => e = .returned (.bool (fitsF re rc pl ab f)) ∧ Has E w' [R] := by
 refine zs (args := [(.int .i64 re), (.int .i64 rc), (.agg #[(.int .i64 f.ep), (.int .i64 f.pl), (.int .i64 f.gsn), (S f.data)]), (.int .i64 pl), (.int .i64 ab)]) Tryz.func95 rfl Tryz.ntmps95 (by simp) ?_
 refine wp_seq_k fun K1 hK1 => ?_
 refine zb ?_
 refine za (o_box (cs := #[(.int .i64 f.ep), (.int .i64 f.pl), (.int .i64 f.gsn), (S f.data)]) rfl rfl hH fun b2 w3 hH4 => ?_)
 refine za (ze (v := (.bool false)) rfl ?_)
 refine zf ?_
 refine zc (hK1 _ _ ?_)
 refine wp_seq_k fun K5 hK5 => ?_
 refine wp_seq_k fun K6 hK6 => ?_
 refine zb ?_
 refine za (zC (cs := [(.int .i64 f.ep), (.int .i64 f.pl), (.int .i64 f.gsn), (S f.data)]) Tryz.underlying44 rfl ti44 rfl hH4 (zh 0 rfl) (CellsAt.one rfl) ?_)
 refine za (zk (vs := #[(.agg #[(.int .i64 f.ep), (.int .i64 f.pl), (.int .i64 f.gsn), (S f.data)])]) ca183 rfl (zF rfl) (refright_c hH4.all f (by omega)) ?_)
 rintro _ w9 ⟨rfl, hX7⟩
 refine ⟨_, rfl, ?_⟩
 have hH8 := hX7.of_all
 refine za (o_not rfl ?_)
 refine za (zd (v := (.bool (!(rightS f)))) rfl ?_)
 rcases Bool.eq_false_or_eq_true (!(rightS f)) with h10 | h10
 ·
  refine zi (b' := true) 14 rfl (congrArg Value.bool h10) rfl ?_
  refine zi (b' := true) 14 rfl (congrArg Value.bool h10) rfl ?_
  refine zi (b' := true) 14 rfl (congrArg Value.bool h10) rfl ?_
  refine zi (b' := true) 14 rfl (congrArg Value.bool h10) rfl ?_
  refine za (zo (u := (.bool true)) ((rfl : _ = _).trans (congrArg Value.bool h10)) rfl ?_)
  refine za (zd (v := (.bool true)) rfl ?_)
  refine zi (b' := true) 20 rfl rfl rfl ?_
  refine zi (b' := true) 20 rfl rfl rfl ?_
  refine zi (b' := true) 20 rfl rfl rfl ?_
  refine zi (b' := true) 20 rfl rfl rfl ?_
  refine za (zo (u := (.bool true)) rfl rfl ?_)
  refine za (zd (v := (.bool true)) rfl ?_)
  refine zi (b' := true) 26 rfl rfl rfl ?_
  refine zi (b' := true) 26 rfl rfl rfl ?_
  refine zi (b' := true) 26 rfl rfl rfl ?_
  refine zi (b' := true) 26 rfl rfl rfl ?_
  refine za (zo (u := (.bool true)) rfl rfl ?_)
  refine zf ?_
  refine zc (hK6 _ _ ?_)
  refine zN rfl rfl ?_
  refine wp_seq_k fun K11 hK11 => ?_
  refine zb ?_
  refine za (ze (v := (.bool false)) rfl ?_)
  refine zf ?_
  refine zc (hK11 _ _ ?_)
  refine wp_ret ?_
  refine zv (zq Tryz.results95  (v := (.bool false)) rfl ?_)
  have hH12 : Has E w9 [R] := (hH8.front 1 rfl).first 1 rfl
  exact ⟨by rw [fitsF, (not_t h10)]; rfl, hH12⟩
 ·
  refine zn 14 rfl (congrArg Value.bool h10) (zg (k := 1) (fun _ => by kernel_rfl) rfl ?_)
  refine zn 14 rfl (congrArg Value.bool h10) (zj (v := (.int .i64 f.pl)) Tryz.underlying3 rfl rfl hH8 (zh 0 rfl) (CellsAt.one rfl) ?_)
  refine zn 14 rfl (congrArg Value.bool h10) (zd (v := (.int .i64 pl)) rfl ?_)
  refine zn 14 rfl (congrArg Value.bool h10) (o_neq (a := f.pl) (b := pl) rfl rfl ?_)
  refine za (zm (u := (.bool (decide (f.pl ≠ pl)))) ((rfl : _ = _).trans (congrArg Value.bool h10)) rfl ?_)
  refine za (zd (v := (.bool (decide (f.pl ≠ pl)))) rfl ?_)
  by_cases h13 : f.pl ≠ pl
  ·
   refine zi (b' := true) 20 rfl (cT h13) rfl ?_
   refine zi (b' := true) 20 rfl (cT h13) rfl ?_
   refine zi (b' := true) 20 rfl (cT h13) rfl ?_
   refine zi (b' := true) 20 rfl (cT h13) rfl ?_
   refine za (zo (u := (.bool true)) ((rfl : _ = _).trans (cT h13)) rfl ?_)
   refine za (zd (v := (.bool true)) rfl ?_)
   refine zi (b' := true) 26 rfl rfl rfl ?_
   refine zi (b' := true) 26 rfl rfl rfl ?_
   refine zi (b' := true) 26 rfl rfl rfl ?_
   refine zi (b' := true) 26 rfl rfl rfl ?_
   refine za (zo (u := (.bool true)) rfl rfl ?_)
   refine zf ?_
   refine zc (hK6 _ _ ?_)
   refine zN rfl rfl ?_
   refine wp_seq_k fun K14 hK14 => ?_
   refine zb ?_
   refine za (ze (v := (.bool false)) rfl ?_)
   refine zf ?_
   refine zc (hK14 _ _ ?_)
   refine wp_ret ?_
   refine zv (zq Tryz.results95  (v := (.bool false)) rfl ?_)
   have hH15 : Has E w9 [R] := (hH8.front 1 rfl).first 1 rfl
   exact ⟨by rw [fitsF, (not_f h10), Bool.true_and]; exact congrArg (fun b => Ending.returned (.bool b)) ((decide_eq_false (by omega)).symm), hH15⟩
  ·
   refine zn 20 rfl (cF h13) (zg (k := 2) (fun _ => by kernel_rfl) rfl ?_)
   refine zn 20 rfl (cF h13) (zj (v := (.int .i64 f.gsn)) Tryz.underlying3 rfl rfl hH8 (zh 0 rfl) (CellsAt.one rfl) ?_)
   refine zn 20 rfl (cF h13) (zd (v := (.int .i64 ab)) rfl ?_)
   refine zn 20 rfl (cF h13) (o_leq (a := f.gsn) (b := ab) rfl rfl ?_)
   refine za (zm (u := (.bool (decide (f.gsn ≤ ab)))) ((rfl : _ = _).trans (cF h13)) rfl ?_)
   refine za (zd (v := (.bool (decide (f.gsn ≤ ab)))) rfl ?_)
   by_cases h16 : f.gsn ≤ ab
   ·
    refine zi (b' := true) 26 rfl (cT h16) rfl ?_
    refine zi (b' := true) 26 rfl (cT h16) rfl ?_
    refine zi (b' := true) 26 rfl (cT h16) rfl ?_
    refine zi (b' := true) 26 rfl (cT h16) rfl ?_
    refine za (zo (u := (.bool true)) ((rfl : _ = _).trans (cT h16)) rfl ?_)
    refine zf ?_
    refine zc (hK6 _ _ ?_)
    refine zN rfl rfl ?_
    refine wp_seq_k fun K17 hK17 => ?_
    refine zb ?_
    refine za (ze (v := (.bool false)) rfl ?_)
    refine zf ?_
    refine zc (hK17 _ _ ?_)
    refine wp_ret ?_
    refine zv (zq Tryz.results95  (v := (.bool false)) rfl ?_)
    have hH18 : Has E w9 [R] := (hH8.front 1 rfl).first 1 rfl
    exact ⟨by rw [fitsF, (not_f h10), Bool.true_and]; exact congrArg (fun b => Ending.returned (.bool b)) ((decide_eq_false (by omega)).symm), hH18⟩
   ·
    refine zn 26 rfl (cF h16) (zg (k := 0) (fun _ => by kernel_rfl) rfl ?_)
    refine zn 26 rfl (cF h16) (zj (v := (.int .i64 f.ep)) Tryz.underlying3 rfl rfl hH8 (zh 0 rfl) (CellsAt.one rfl) ?_)
    refine zn 26 rfl (cF h16) (zd (v := (.int .i64 re)) rfl ?_)
    refine zn 26 rfl (cF h16) (o_gtr (a := f.ep) (b := re) rfl rfl ?_)
    refine za (zm (u := (.bool (decide (re < f.ep)))) ((rfl : _ = _).trans (cF h16)) rfl ?_)
    refine zf ?_
    refine zc (hK6 _ _ ?_)
    refine zt rfl (fun h19 => ?_) (fun h19 => ?_)
    ·
     refine wp_seq_k fun K20 hK20 => ?_
     refine zb ?_
     refine za (ze (v := (.bool false)) rfl ?_)
     refine zf ?_
     refine zc (hK20 _ _ ?_)
     refine wp_ret ?_
     refine zv (zq Tryz.results95  (v := (.bool false)) rfl ?_)
     have hH21 : Has E w9 [R] := (hH8.front 1 rfl).first 1 rfl
     exact ⟨by rw [fitsF, (not_f h10), Bool.true_and]; exact congrArg (fun b => Ending.returned (.bool b)) ((decide_eq_false (by omega)).symm), hH21⟩
    ·
     refine wp_skip ?_
     refine zc (hK5 _ _ ?_)
     refine wp_seq_k fun K22 hK22 => ?_
     refine zb ?_
     refine za (zg (k := 0) (fun _ => by kernel_rfl) rfl ?_)
     refine za (zj (v := (.int .i64 f.ep)) Tryz.underlying3 rfl rfl hH8 (zh 0 rfl) (CellsAt.one rfl) ?_)
     refine za (zd (v := (.int .i64 re)) rfl ?_)
     refine za (yd (a := f.ep) (b := re) rfl rfl ?_)
     refine za (zd (v := (.bool (decide (f.ep = re)))) rfl ?_)
     by_cases h23 : f.ep = re
     ·
      refine zi (b' := true) 36 rfl (cT h23) rfl ?_
      refine zi (b' := true) 36 rfl (cT h23) rfl ?_
      refine zi (b' := true) 36 rfl (cT h23) rfl ?_
      refine zi (b' := true) 36 rfl (cT h23) rfl ?_
      refine za (zo (u := (.bool true)) ((rfl : _ = _).trans (cT h23)) rfl ?_)
      refine za (ze (v := (.bool true)) rfl ?_)
      refine zf ?_
      refine zc (hK22 _ _ ?_)
      refine wp_ret ?_
      refine zq Tryz.results95  (v := (.bool true)) rfl ?_
      have hH24 : Has E w9 [R] := (hH8.front 1 rfl).first 1 rfl
      exact ⟨by rw [fitsF, (not_f h10), Bool.true_and]; exact congrArg (fun b => Ending.returned (.bool b)) ((decide_eq_true (by omega)).symm), hH24⟩
     ·
      refine zn 36 rfl (cF h23) (zg (k := 1) (fun _ => by kernel_rfl) rfl ?_)
      refine zn 36 rfl (cF h23) (zj (v := (.int .i64 f.pl)) Tryz.underlying3 rfl rfl hH8 (zh 0 rfl) (CellsAt.one rfl) ?_)
      refine zn 36 rfl (cF h23) (zd (v := (.int .i64 rc)) rfl ?_)
      refine zn 36 rfl (cF h23) (zL (a := f.pl) (b := rc) rfl rfl ?_)
      refine za (zm (u := (.bool (decide (f.pl < rc)))) ((rfl : _ = _).trans (cF h23)) rfl ?_)
      refine za (ze (v := (.bool (decide (f.pl < rc)))) rfl ?_)
      refine zf ?_
      refine zc (hK22 _ _ ?_)
      refine wp_ret ?_
      refine zq Tryz.results95  (v := (.bool (decide (f.pl < rc)))) rfl ?_
      have hH25 : Has E w9 [R] := (hH8.front 1 rfl).first 1 rfl
      exact ⟨by rw [fitsF, (not_f h10), Bool.true_and]; exact congrArg (fun b => Ending.returned (.bool b)) (decide_eq_decide.2 (by omega)), hH25⟩
set_option maxHeartbeats 4000000 in
theorem refchain_c {E w : World} {R : List Hp} (hH : Has E w [R]) (t : List UInt8) (htl : t.length ≤ 1000000) (re rc pl ab : Int) (hpl0 : -9000000000000000000 ≤ pl ∧ pl ≤ 9000000000000000000) :
  Calls Tryz.prog 15 #[(.int .i64 re), (.int .i64 rc), (S t), (.int .i64 pl), (.int .i64 ab)] w fun e w' => ∃ v' hs', e = .returned (.tuple #[v', .int .i64 (chainS re rc (t.length + 1) t pl ab).2]) ∧ Own 44 4 v' (chainS re rc (t.length + 1) t pl ab).1.length ((chainS re rc (t.length + 1) t pl ab).1.flatMap frC) hs' ∧ Has E w' [hs', R] := by
 refine zs (args := [(.int .i64 re), (.int .i64 rc), (S t), (.int .i64 pl), (.int .i64 ab)]) Tryz.func15 rfl Tryz.ntmps15 (by simp) ?_
 refine wp_seq_k fun K1 hK1 => ?_
 refine zb ?_
 refine za (ze (v := (.slice none 0 0)) rfl ?_)
 refine za (ze (v := (.int .i64 0)) rfl ?_)
 refine zf ?_
 refine zc (hK1 _ _ ?_)
 refine wp_seq_k fun K2 hK2 => ?_
 refine zb ?_
 refine za (ze (v := (.slice none 0 0)) rfl ?_)
 refine zf ?_
 refine zc (hK2 _ _ ?_)
 refine wp_block ?_
 let I4 : Nat → (Nat → Value) → World → Prop := fun n__ r__ w__ => ∃ (n : Nat) (cur : List UInt8) (pl2 : Int) (ab2 : Int) (va : Value) (ha : List Hp) (acc : List Fr), n__ = n + 1 ∧ Has E w__ [ha, R] ∧ (cur.length < n) ∧ (Own 44 4 va acc.length (acc.flatMap frC) ha) ∧ (pl2 + (cur.length : Int) = pl + (t.length : Int)) ∧ (25 * acc.length + cur.length ≤ t.length) ∧ ((chainS re rc (t.length + 1) t pl ab) = (acc ++ (chainS re rc n cur pl2 ab2).1, (chainS re rc n cur pl2 ab2).2)) ∧ r__ 0 = (.int .i64 re) ∧ r__ 1 = (.int .i64 rc) ∧ r__ 2 = (S cur) ∧ r__ 3 = (.int .i64 pl2) ∧ r__ 4 = (.int .i64 ab2) ∧ r__ 12 = va
 have hH5 : Has E w [[], R] := (Has.nil hH).first 2 rfl
 refine zT I4 _ ⟨(t.length + 1), t, pl, ab, (.slice none 0 0), [], [], rfl, hH5, (by omega), Own.nil 44 4, rfl, (by simp), (by simp), rfl, rfl, rfl, rfl, rfl, rfl⟩ ?_
 rintro n_ r8 w6 ⟨n, cur, pl2, ab2, va, ha, acc, rfl, hH7, hn, hoa, hpl, hal, hch, e3_0, e3_1, e3_2, e3_3, e3_4, e3_12⟩
 refine wp_block ?_
 refine wp_seq_k fun K9 hK9 => ?_
 refine zb ?_
 refine za (zd (v := (S cur)) e3_2 ?_)
 refine za (zk (vs := #[(S cur)]) ca94 rfl (zF rfl) (fref_c hH7.all cur (by omega)) ?_)
 rintro _ w12 ⟨rfl, hX10⟩
 refine ⟨_, rfl, ?_⟩
 have hH11 := hX10.of_all
 refine za (zd (v := (.tuple #[(.agg #[(.int .i64 ((oF cur).ep)), (.int .i64 ((oF cur).pl)), (.int .i64 ((oF cur).gsn)), (S ((oF cur).data))]), (.bool (opensB cur))])) rfl ?_)
 refine za (zp (v := (.agg #[(.int .i64 ((oF cur).ep)), (.int .i64 ((oF cur).pl)), (.int .i64 ((oF cur).gsn)), (S ((oF cur).data))])) rfl rfl ?_)
 refine za (zp (v := (.bool (opensB cur))) rfl rfl ?_)
 refine za (zU (cs := #[(.int .i64 0), (.int .i64 0), (.int .i64 0), (S ([] : List UInt8))]) ti44 rfl hH11 fun b13 w14 hH15 => ?_)
 refine zB (zw (vs := [(.int .i64 ((oF cur).ep)), (.int .i64 ((oF cur).pl)), (.int .i64 ((oF cur).gsn)), (S ((oF cur).data))]) (c' := #[(.int .i64 ((oF cur).ep)), (.int .i64 ((oF cur).pl)), (.int .i64 ((oF cur).gsn)), (S ((oF cur).data))]) ti44 rfl rfl rfl rfl (by intro u hu; simp only [List.mem_cons, List.not_mem_nil, or_false] at hu; rcases hu with rfl | rfl | rfl | rfl <;> first | rfl) (by simp) (by kernel_rfl) (hH15.front 0 rfl) fun w16 hH17 => ?_)
 refine za (ze (v := (.bool (opensB cur))) rfl ?_)
 refine zf ?_
 refine zc (hK9 _ _ ?_)
 refine wp_seq_k fun K18 hK18 => ?_
 refine wp_seq_k fun K19 hK19 => ?_
 refine zb ?_
 refine za (zd (v := (.bool (opensB cur))) rfl ?_)
 refine za (o_not rfl ?_)
 refine za (zd (v := (.bool (!(opensB cur)))) rfl ?_)
 rcases Bool.eq_false_or_eq_true (!(opensB cur)) with h20 | h20
 ·
  refine zi (b' := true) 23 rfl (congrArg Value.bool h20) rfl ?_
  refine zi (b' := true) 23 rfl (congrArg Value.bool h20) rfl ?_
  refine zi (b' := true) 23 rfl (congrArg Value.bool h20) rfl ?_
  refine zi (b' := true) 23 rfl (congrArg Value.bool h20) rfl ?_
  refine zi (b' := true) 23 rfl (congrArg Value.bool h20) rfl ?_
  refine zi (b' := true) 23 rfl (congrArg Value.bool h20) rfl ?_
  refine zi (b' := true) 23 rfl (congrArg Value.bool h20) rfl ?_
  refine za (zo (u := (.bool true)) ((rfl : _ = _).trans (congrArg Value.bool h20)) rfl ?_)
  refine zf ?_
  refine zc (hK19 _ _ ?_)
  refine zN rfl rfl ?_
  refine wp_seq_k fun K21 hK21 => ?_
  refine zb ?_
  refine za (zd (v := va) e3_12 ?_)
  refine za (zd (v := (.int .i64 pl2)) e3_3 ?_)
  refine za (ze (v := va) rfl ?_)
  refine za (ze (v := (.int .i64 pl2)) rfl ?_)
  refine zf ?_
  refine zc (hK21 _ _ ?_)
  refine wp_ret ?_
  refine zv (b_ret (zv (b_ret (zV Tryz.results15  (v := va) rfl (x := (.int .i64 pl2)) rfl ?_))))
  have hH22 : Has E w16 [ha, R] := ((hH17.front 2 rfl).front 2 rfl).first 2 rfl
  have he := chain_end (.inl (not_t h20)) hch
  exact ⟨_, _, by rw [he], by rw [he]; exact hoa, hH22⟩
 ·
  have hle := oN_le (not_f h20)
  have hny := oN_yes (not_f h20)
  refine zn 23 rfl (congrArg Value.bool h20) (zd (v := (.int .i64 re)) e3_0 ?_)
  refine zn 23 rfl (congrArg Value.bool h20) (zd (v := (.int .i64 rc)) e3_1 ?_)
  refine zn 23 rfl (congrArg Value.bool h20) (zC (cs := [(.int .i64 ((oF cur).ep)), (.int .i64 ((oF cur).pl)), (.int .i64 ((oF cur).gsn)), (S ((oF cur).data))]) Tryz.underlying44 rfl ti44 rfl hH17 (zh 0 rfl) (CellsAt.one rfl) ?_)
  refine zn 23 rfl (congrArg Value.bool h20) (zd (v := (.int .i64 pl2)) e3_3 ?_)
  refine zn 23 rfl (congrArg Value.bool h20) (zd (v := (.int .i64 ab2)) e3_4 ?_)
  refine zn 23 rfl (congrArg Value.bool h20) (zk (vs := #[(.int .i64 re), (.int .i64 rc), (.agg #[(.int .i64 ((oF cur).ep)), (.int .i64 ((oF cur).pl)), (.int .i64 ((oF cur).gsn)), (S ((oF cur).data))]), (.int .i64 pl2), (.int .i64 ab2)]) ca95 rfl (args5 rfl rfl rfl rfl rfl) (reffits_c hH17.all (oF cur) (Nat.le_trans (oF_le cur) (by omega)) re rc pl2 ab2) ?_)
  rintro _ w25 ⟨rfl, hX23⟩
  refine ⟨_, rfl, ?_⟩
  have hH24 := hX23.of_all
  refine zn 23 rfl (congrArg Value.bool h20) (o_not rfl ?_)
  refine za (zm (u := (.bool (!(fitsF re rc pl2 ab2 (oF cur))))) ((rfl : _ = _).trans (congrArg Value.bool h20)) rfl ?_)
  refine zf ?_
  refine zc (hK19 _ _ ?_)
  refine zX rfl (fun h26 => ?_) (fun h26 => ?_)
  ·
   have h26_n : (fitsF re rc pl2 ab2 (oF cur)) = false := by first | simpa using h26 | exact Bool.of_not_eq_true (fun g_ => by rw [g_] at h26; cases h26)
   refine wp_seq_k fun K27 hK27 => ?_
   refine zb ?_
   refine za (zd (v := va) e3_12 ?_)
   refine za (zd (v := (.int .i64 pl2)) e3_3 ?_)
   refine za (ze (v := va) rfl ?_)
   refine za (ze (v := (.int .i64 pl2)) rfl ?_)
   refine zf ?_
   refine zc (hK27 _ _ ?_)
   refine wp_ret ?_
   refine zv (b_ret (zv (b_ret (zV Tryz.results15  (v := va) rfl (x := (.int .i64 pl2)) rfl ?_))))
   have hH28 : Has E w25 [ha, R] := ((hH24.front 2 rfl).front 2 rfl).first 2 rfl
   have he := chain_end (.inr (not_t h26)) hch
   exact ⟨_, _, by rw [he], by rw [he]; exact hoa, hH28⟩
  ·
   have h26_n : (fitsF re rc pl2 ab2 (oF cur)) = true := by first | simpa using h26 | exact Bool.of_not_eq_false (fun g_ => by rw [g_] at h26; cases h26)
   refine wp_skip ?_
   refine zc (hK18 _ _ ?_)
   refine wp_seq_k fun K29 hK29 => ?_
   refine zb ?_
   refine za (zd (v := va) e3_12 ?_)
   refine za (zC (cs := [(.int .i64 ((oF cur).ep)), (.int .i64 ((oF cur).pl)), (.int .i64 ((oF cur).gsn)), (S ((oF cur).data))]) Tryz.underlying44 rfl ti44 rfl hH24 (zh 0 rfl) (CellsAt.one rfl) ?_)
   refine za (zu (ps := #[(0, (.agg #[(.int .i64 ((oF cur).ep)), (.int .i64 ((oF cur).pl)), (.int .i64 ((oF cur).gsn)), (S ((oF cur).data))]))]) (cells := #[(.int .i64 ((oF cur).ep)), (.int .i64 ((oF cur).pl)), (.int .i64 ((oF cur).gsn)), (S ((oF cur).data))]) Tryz.underlying31 ti44 (by decide) (parts1 rfl) (by kernel_rfl) hH24 fun b30 w31 hH32 => ?_)
   refine za (o_append Tryz.underlying31 ti44 rfl (by decide) rfl hoa rfl (sl_litF (f := frC) (l := [(oF cur)]) frC_len rfl rfl (by simp)) (hH32.front 2 rfl) (zh 0 rfl) (one_fr _) (by simp; omega) (by simp; omega) fun v33 s34 w36 ho35 hH37 => ?_)
   have ho35 : Own 44 4 v33 (acc ++ [(oF cur)]).length ((acc ++ [(oF cur)]).flatMap frC) s34 := ho35.appF
   refine za (ze (v := v33) rfl ?_)
   refine zf ?_
   refine zc (hK29 _ _ ?_)
   refine wp_seq_k fun K38 hK38 => ?_
   refine zb ?_
   refine za (zg (k := 3) (fun _ => by kernel_rfl) rfl ?_)
   refine za (zj (v := (S ((oF cur).data))) Tryz.underlying9 rfl rfl hH37 (zh 2 rfl) (CellsAt.one rfl) ?_)
   refine za (yb Tryz.underlying9 rfl ?_)
   refine za (zH (a := 25) (b := (((oF cur).data).length : Int)) rfl rfl (w64 (by omega) (by omega)) ?_)
   refine za (ze (v := (.int .i64 (25 + (((oF cur).data).length : Int)))) rfl ?_)
   refine zf ?_
   refine zc (hK38 _ _ ?_)
   refine wp_seq_k fun K39 hK39 => ?_
   refine zb ?_
   refine za (zd (v := (S cur)) e3_2 ?_)
   refine za (zd (v := (.int .i64 (25 + (((oF cur).data).length : Int)))) rfl ?_)
   refine za (o_ssl_l Tryz.underlying9 rfl rfl (by omega) (by omega) ?_)
   refine za (ze (v := (S (cur.drop (25 + (((oF cur).data).length : Int)).toNat))) rfl ?_)
   refine zf ?_
   refine zc (hK39 _ _ ?_)
   refine wp_seq_k fun K40 hK40 => ?_
   refine zb ?_
   refine za (zd (v := (.int .i64 pl2)) e3_3 ?_)
   refine za (zd (v := (.int .i64 (25 + (((oF cur).data).length : Int)))) rfl ?_)
   refine za (zH (a := pl2) (b := 25 + (((oF cur).data).length : Int)) rfl rfl (w64 (by omega) (by omega)) ?_)
   refine za (ze (v := (.int .i64 (pl2 + (25 + (((oF cur).data).length : Int))))) rfl ?_)
   refine zf ?_
   refine zc (hK40 _ _ ?_)
   refine zb ?_
   refine za (zg (k := 2) (fun _ => by kernel_rfl) rfl ?_)
   refine za (zj (v := (.int .i64 ((oF cur).gsn))) Tryz.underlying3 rfl rfl hH37 (zh 2 rfl) (CellsAt.one rfl) ?_)
   refine za (ze (v := (.int .i64 ((oF cur).gsn))) rfl ?_)
   refine zf ?_
   refine zG ?_
   have hH41 : Has E w36 [s34, R] := ((hH37.front 3 rfl).front 1 rfl).first 2 rfl
   refine zc ⟨(n - 1) + 1, _, rfl, ?_, ?_⟩
   · omega
   · exact ⟨(n - 1), (cur.drop (25 + (((oF cur).data).length : Int)).toNat), (pl2 + (25 + (((oF cur).data).length : Int))), ((oF cur).gsn), v33, s34, (acc ++ [(oF cur)]), rfl, hH41, (by simp only [List.length_drop]; omega), (ho35), (by simp only [List.length_drop]; omega), (by simp only [List.length_append, List.length_cons, List.length_nil, List.length_drop]; omega), (by rw [← hny]; exact chain_step (by omega) (not_f h20) (not_f h26) hch), e3_0, e3_1, rfl, rfl, rfl, rfl⟩
end Go.Q
namespace Go.Q
open Go.Proofs
set_option linter.unusedVariables false
set_option maxRecDepth 100000
attribute [local irreducible] wpList OK Code.wp
end Go.Q
namespace Go.Q
open Go.Proofs
set_option linter.unusedVariables false
set_option maxRecDepth 100000
attribute [local irreducible] wpList OK Code.wp
theorem put0_d {E w : World} {R sg : List Hp} {pb db : Nat} {p : Pw} {la : List Bs} (hH : Has E w [sg, [Hp.one pb (.cells #[(.bool p.off), (.bool p.armed), (.int .i64 p.left), (.int .i64 p.uses)] 145 (0, 0))], R]) (hd : DevAt pb sg db la []) (n : Int) (s : Bs) (hs : s.length ≤ 1000000000) :
  Calls Tryz.prog 14 #[.pointer (some ⟨db, 0, none⟩), .int .i64 n, (S s)] w fun e w' => ∃ sg', e = .returned (.int .i64 (putE la.length n s)) ∧ DevAt pb sg' db (putA la n s) [] ∧ Has E w' [sg', [Hp.one pb (.cells #[(.bool p.off), (.bool p.armed), (.int .i64 p.left), (.int .i64 p.uses)] 145 (0, 0))], R] := by
 have h_ := put_d hH hd n s hs
 simp only [putO_nil] at h_
 exact h_
end Go.Q
namespace Go.Q
theorem hdL_ne {h : Hd} (g : hdL h ≠ []) : hdR h = true := by
 cases e : hdR h with
 | true => rfl
 | false => exact absurd (hdL_no e) g
/-- a head, put on a new device -/
theorem put_kp {k : Nat} {h : Hd} (hk : 1 ≤ k) (hr : hdR h = true) : KpA (putA (List.replicate (k + 2) blankS) (h.seq % 2) (hdL h)) 0 h := by
 have hl := hdL_len hr
 have h1 := Int.emod_nonneg h.seq (show (2 : Int) ≠ 0 by decide)
 have h2 := Int.emod_lt_of_pos h.seq (show (0 : Int) < 2 by decide)
 have hin : inS (h.seq % 2) (List.replicate (k + 2) blankS).length := by rw [List.length_replicate]; exact ⟨h1, by omega⟩
 have e : putA (List.replicate (k + 2) blankS) (h.seq % 2) (hdL h) = (List.replicate (k + 2) blankS).set (h.seq % 2).toNat (hdL h) := by
  unfold putA
  rw [if_pos ⟨by omega, hin⟩, fill_full hl]
 rw [e]
 unfold KpA
 rw [sec_set hin (by decide), sec_set hin (by decide), sec_rep (by show (0 : Int).toNat < k + 2; omega), sec_rep (by show ((0 : Int) + 1).toNat < k + 2; omega)]
 refine ⟨hr, ?_⟩
 by_cases he : h.seq % 2 = 0
 ·
  rw [if_pos he, he]
  refine ⟨by rw [if_pos rfl], fun g => ?_⟩
  rw [if_neg (by decide), hdP_blank] at g
  cases g
 ·
  have he1 : h.seq % 2 = 1 := by omega
  rw [if_neg he, he1]
  refine ⟨by rw [if_pos (by decide)], fun g => ?_⟩
  rw [if_neg (by decide), hdP_blank] at g
  cases g
/-- sectors put one by one -/
def PutK (nb : Bs) (l1 : List Bs) (k i : Nat) (la : List Bs) : Prop := la.length = k + 2 ∧ Full64 la ∧ sec la 0 = sec l1 0 ∧ sec la 1 = sec l1 1 ∧ ∀ j : Nat, j < i → sec la (2 + (j : Int)) = (nb.take (64 * j + 64)).drop (64 * j)
theorem PutK.start {nb : Bs} {l1 : List Bs} {k : Nat} (hl : l1.length = k + 2) (h : Full64 l1) : PutK nb l1 k 0 l1 := ⟨hl, h, rfl, rfl, fun j hj => by omega⟩
theorem PutK.step {nb : Bs} {l1 : List Bs} {k i : Nat} {la : List Bs} (h : PutK nb l1 k i la) (hi : i < k) (hn : nb.length = 64 * k) : PutK nb l1 k (i + 1) (putA la (2 + (i : Int)) ((nb.take (64 * (i : Int) + 64).toNat).drop (64 * (i : Int)).toNat)) := by
 obtain ⟨h1, h2, h3, h4, h5⟩ := h
 rw [show (64 * (i : Int) + 64).toNat = 64 * i + 64 by omega, show (64 * (i : Int)).toNat = 64 * i by omega]
 have hl : ((nb.take (64 * i + 64)).drop (64 * i)).length = 64 := by rw [List.length_drop, List.length_take]; omega
 have hin : inS (2 + (i : Int)) la.length := ⟨by omega, by omega⟩
 have e : putA la (2 + (i : Int)) ((nb.take (64 * i + 64)).drop (64 * i)) = la.set (2 + (i : Int)).toNat ((nb.take (64 * i + 64)).drop (64 * i)) := by
  unfold putA
  rw [if_pos ⟨by omega, hin⟩, fill_full hl]
 refine ⟨by rw [putA_len]; exact h1, putA_64 h2, ?_, ?_, fun j hj => ?_⟩
 · rw [e, sec_set hin (by decide), if_neg (by omega)]; exact h3
 · rw [e, sec_set hin (by decide), if_neg (by omega)]; exact h4
 ·
  rw [e, sec_set hin (by omega)]
  split
  · rename_i q; rw [show j = i by omega]
  · exact h5 j (by omega)
theorem PutK.cn {nb : Bs} {l1 : List Bs} {k : Nat} {la : List Bs} (h : PutK nb l1 k k la) (hn : nb.length = 64 * k) : Cn nb la [] 2 k := by
 refine ⟨by omega, fun i hi => ?_⟩
 have hs := h.2.2.2.2 (i / 64) (by omega)
 have e : nowAt la [] (2 + i / 64) = sec la (2 + ((i / 64 : Nat) : Int)) := by
  unfold nowAt sec
  rw [show (2 + ((i / 64 : Nat) : Int)).toNat = 2 + i / 64 by omega]; rfl
 rw [e, hs, List.getElem?_drop, List.getElem?_take, if_pos (by omega)]
 congr 1; omega
theorem PutK.kp {nb : Bs} {l1 : List Bs} {k i : Nat} {la : List Bs} {h : Hd} (p : PutK nb l1 k i la) (hk : KpA l1 0 h) : KpA la 0 h := by
 unfold KpA at *
 rw [p.2.2.1, show (0 : Int) + 1 = 1 by decide, p.2.2.2.1]; exact hk
theorem PutK.ring {nb : Bs} {l1 : List Bs} {k : Nat} {la : List Bs} (p : PutK nb l1 k k la) (hn : nb.length = 64 * k) (hk : 1 ≤ k) (pw : Pw) (at_ : Int) : ringB ⟨pw, la, []⟩ (k : Int) at_ = rdR nb (at_ % ((k : Int) * 64)).toNat (k * 64) (64 * k) := by
 unfold ringB ringP
 have hc : Cn nb la [] (2 : Int).toNat ((k : Int)).toNat := p.cn hn
 rw [getP_now (lo := []) hc (area_64 (fr := 2) (n := (k : Int)) p.2.1 (LoOk.nil _) (by decide) (by omega) (by rw [p.1]; omega)) (by decide) (by omega) ⟨Int.emod_nonneg _ (by omega), Int.emod_lt_of_pos _ (by omega)⟩ (by omega)]
 rw [show ((k : Int)).toNat = k by omega, show ((k : Int) * 64).toNat = 64 * k by omega]
/-- what Open finds -/
theorem opE_two {d : Dv} {n : Int} (h : ldE d.p d.la 0 = 0) :
  (opE d n = 0 ∧ ¬ ((ldH d.p d.la 0).ep = 0 ∨ (ldH d.p d.la 0).cut < (ldH d.p d.la 0).st ∨ (opC d n).2 < (ldH d.p d.la 0).cut)) ∨
  (opE d n = 9 ∧ ((ldH d.p d.la 0).ep = 0 ∨ (ldH d.p d.la 0).cut < (ldH d.p d.la 0).st ∨ (opC d n).2 < (ldH d.p d.la 0).cut)) := by
 by_cases g : (ldH d.p d.la 0).ep = 0 ∨ (ldH d.p d.la 0).cut < (ldH d.p d.la 0).st ∨ (opC d n).2 < (ldH d.p d.la 0).cut
 · exact .inr ⟨opE_bad h g, g⟩
 · exact .inl ⟨opE_ok h g, g⟩
theorem posE_neg {l : List LEnt} (h : ∀ e ∈ l, 0 ≤ e.gsn) : posE l (-1) = 0 := by
 unfold posE
 rw [List.filter_eq_nil_iff.2 fun e he => by have := h e he; simp; omega]; rfl
theorem ents_all {d : Dv} {n : Int} (hk : StmOk n (opS d n)) : (opS d n).l.drop (posE (opS d n).l (-1)).toNat = (opC d n).1.map entF := by
 rw [posE_neg fun e he => (hk.gsn e he).1]; rfl
end Go.Q
