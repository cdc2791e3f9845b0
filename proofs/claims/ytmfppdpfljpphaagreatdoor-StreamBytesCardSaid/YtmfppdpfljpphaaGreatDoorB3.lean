/-
  Parts of a walk: what functions of the program compute, each told by a theorem (Qsm6, Qsm7, Qsd1, Qsd2, Qsd3, QsSh3, Qsd4, Qsd4s, Qsd4l, Qsd5, Qsd6, Qsm0, Qss1, Qss2, Qsh1, QF8, Qsh2, Qsh3, Qsm3, Qsd9, QBld, QsSB).
-/
import Derived.Test.YtmfppdpfljpphaaGreatDoorB2
import Derived.Shelf.SlIterI.Sorted
import Derived.Shelf.SortM.Plain
import Derived.Shelf.SortM.SortNone
import Derived.Maps.Range
import Derived.LoopN
import Derived.Lib.AppendStr
import Derived.Lib.UnsafeStr
import Derived.Lib.Builder
set_option linter.unusedVariables false
set_option linter.unusedSimpArgs false
set_option linter.unnecessarySimpa false
namespace Go.Q
open Go.Proofs
set_option linter.unusedVariables false
set_option maxRecDepth 100000
attribute [local irreducible] wpList OK Code.wp
theorem sum2_c {E w : World} {R : List Hp} (hH : Has E w [R]) {v : Value} {a b : Int} (hv : Ints R v [a, b]) (ha : 0 ≤ a) (hb : 0 ≤ b) (hab : a + b ≤ 4000000000000000000) :
  Calls Tryz.prog 198 #[v] w fun e w' => e = .returned (.int .i64 (a + b)) ∧ Has E w' [R] := by
 have h := sum_c hH hv
 rw [sumS_two ha hb hab] at h
 exact h
set_option maxHeartbeats 4000000 in
theorem size_c {E w : World} {R : List Hp} (hH : Has E w [R]) {v : Value} {l : List (List UInt8)} (hv : Sl R 1 v l.length (l.map sV)) (hn : l.length ≤ 1000000) (hl : l.flatten.length ≤ 1000000000) :
  Calls Tryz.prog 120 #[v] w fun e w' => e = .returned (.int .i64 (25 + (l.flatten.length : Int))) ∧ Has E w' [R] := by
 have hn_ := hv.le
 refine zs (args := [v]) Tryz.func120 rfl Tryz.ntmps120 (by simp) ?_
 refine wp_seq_k fun K1 hK1 => ?_
 refine zb ?_
 refine za (ze (v := (.int .i64 0)) rfl ?_)
 refine zf ?_
 refine zc (hK1 _ _ ?_)
 refine wp_seq_k fun K2 hK2 => ?_
 refine zb ?_
 refine za (ze (v := (.int .i64 25)) rfl ?_)
 refine zf ?_
 refine zc (hK2 _ _ ?_)
 refine wp_seq_k fun K3 hK3 => ?_
 refine wp_seq_k fun K4 hK4 => ?_
 refine zb ?_
 refine za (zd (v := v) rfl ?_)
 refine za (zY Tryz.underlying46 rfl hv ?_)
 refine za (zd (v := (.int .i64 0)) rfl ?_)
 refine zf ?_
 refine zc (hK4 _ _ ?_)
 refine wp_block ?_
 let I6 : Nat → (Nat → Value) → World → Prop := fun n__ r__ w__ => ∃ (k : Nat) (y : Int), n__ = l.length - k ∧ Has E w__ [R] ∧ (k ≤ l.length) ∧ (y = 25 + ((l.take k).flatten.length : Int)) ∧ (25 ≤ y ∧ y ≤ 2000000000) ∧ r__ 0 = v ∧ r__ 2 = (.int .i64 0) ∧ r__ 3 = (.int .i64 y) ∧ r__ 6 = v ∧ r__ 7 = (.int .i64 ((l.length : Nat) : Int)) ∧ r__ 8 = (.int .i64 (k : Int))
 refine zT I6 _ ⟨0, 25, rfl, hH, Nat.zero_le _, rfl, (by omega), rfl, rfl, rfl, rfl, rfl, rfl⟩ ?_
 rintro n_ r9 w7 ⟨k, y, rfl, hH8, hk, hy, hyb, e5_0, e5_2, e5_3, e5_6, e5_7, e5_8⟩
 refine wp_seq_k fun K10 hK10 => ?_
 refine zb ?_
 refine za (zL (a := (k : Int)) (b := ((l.length : Nat) : Int)) e5_8 e5_7 ?_)
 refine zf ?_
 refine zc (hK10 _ _ ?_)
 refine wp_seq_k fun K11 hK11 => ?_
 refine zt rfl (fun h12 => ?_) (fun h12 => ?_)
 ·
  refine wp_skip ?_
  refine zc (hK11 _ _ ?_)
  refine wp_seq_k fun K13 hK13 => ?_
  refine wp_block ?_
  refine wp_seq_k fun K14 hK14 => ?_
  refine zb ?_
  obtain ⟨x18, hx19⟩ : ∃ x_, l[((k : Int)).toNat]? = some x_ := zM (by omega)
  refine za (yc Tryz.underlying46 ti9 e5_6 hv e5_8 (by omega) hx19 fun b15 o16 hc17 => ?_)
  have hxl := flat_le (List.mem_of_getElem? hx19)
  have htk := take_flat_le l k hx19
  refine za (zj (v := (S x18)) Tryz.underlying9 rfl rfl hH8 (zh 0 rfl) hc17 ?_)
  refine za (ze (v := (S x18)) rfl ?_)
  refine zf ?_
  refine zc (hK14 _ _ ?_)
  refine zb ?_
  refine za (zd (v := (.int .i64 y)) e5_3 ?_)
  refine za (zd (v := (S x18)) rfl ?_)
  refine za (yb Tryz.underlying9 rfl ?_)
  refine za (zu (ps := #[(0, (.int .i64 y)), (1, (.int .i64 (x18.length : Int)))]) (cells := #[(.int .i64 y), (.int .i64 (x18.length : Int))]) Tryz.underlying47 ti3 (by decide) (parts2 rfl rfl) (by kernel_rfl) hH8 fun b20 w21 hH22 => ?_)
  refine za (zk (vs := #[(.slice (some ⟨b20, 0, none⟩) 2 2)]) ca198 rfl (zF rfl) (sum2_c hH22.all (a := y) (b := (x18.length : Int)) ((zW (f := iV) (l := [y, (x18.length : Int)]) rfl rfl (by simp)).mono (zh 0 rfl)) (by omega) (by omega) (by omega)) ?_)
  rintro _ w25 ⟨rfl, hX23⟩
  refine ⟨_, rfl, ?_⟩
  have hH24 := hX23.of_all
  refine za (ze (v := (.int .i64 (y + (x18.length : Int)))) rfl ?_)
  refine zf ?_
  refine zG ?_
  refine zc (hK13 _ _ ?_)
  refine zb ?_
  refine za (zH (a := (k : Int)) (b := 1) e5_8 rfl (w64 (by omega) (by omega)) ?_)
  refine za (zd (v := (.int .i64 ((k : Int) + 1))) rfl ?_)
  refine zf ?_
  have hH26 : Has E w25 [R] := (hH24.front 1 rfl).first 1 rfl
  refine zc ⟨l.length - (k + 1), _, rfl, ?_, ?_⟩
  · omega
  · exact ⟨(k + 1), (y + (x18.length : Int)), rfl, hH26, (by omega), (by rw [zO (show l[k]? = some _ from hx19), List.flatten_append, List.length_append, hy]; simp; omega), (by omega), e5_0, e5_2, rfl, e5_6, e5_7, rfl⟩
 ·
  refine wp_exit ?_
  refine zx (zx (x_in (?_)))
  refine zc (hK3 _ _ ?_)
  refine wp_seq_k fun K27 hK27 => ?_
  refine zb ?_
  refine za (zd (v := (.int .i64 y)) e5_3 ?_)
  refine za (ze (v := (.int .i64 y)) rfl ?_)
  refine zf ?_
  refine zc (hK27 _ _ ?_)
  refine wp_ret ?_
  refine zq Tryz.results120  (v := (.int .i64 y)) rfl ?_
  have e : k = l.length := by omega
  rw [e, List.take_length] at hy
  exact ⟨by rw [hy], hH8⟩
theorem size1_c {E w : World} {R : List Hp} (hH : Has E w [R]) {v : Value} {s : Bs} (hv : Sl R 1 v [s].length ([s].map sV)) (hs : s.length ≤ 1000000) :
  Calls Tryz.prog 120 #[v] w fun e w' => e = .returned (.int .i64 (25 + (s.length : Int))) ∧ Has E w' [R] := by
 have h := size_c hH hv (by simp) (by simp only [List.flatten_cons, List.flatten_nil, List.append_nil]; omega)
 rw [show ([s] : List Bs).flatten = s by simp] at h
 exact h
set_option maxHeartbeats 4000000 in
theorem slay_c {E w : World} {R : List Hp} {sb : Nat} {sg_sb : List Hp} {db : Nat} {ab : Nat} {v : StmS} {g : Int} {s : Bs} {n : Int} (hH : Has E w [sg_sb, R]) (h_sb : StmAt db ab sb sg_sb v) (hok : StmOk n v) (hsl : s.length ≤ 1000) :
  Calls Tryz.prog 121 #[(.pointer (some ⟨sb, 0, none⟩)), (.int .i64 g), (S s)] w fun e w' => ∃ (sg_sb' : List Hp), e = .returned (.tuple #[]) ∧ (StmAt db ab sb sg_sb' (layS v g s)) ∧ Has E w' [sg_sb', R] := by
 obtain ⟨hle1_, hle2_⟩ := hok.le
 obtain ⟨hn1_, hn2_⟩ := hok.num
 obtain ⟨hm1_, hm2_⟩ := hok.mrk
 obtain ⟨hs1_, hs2_⟩ := hok.st
 have ht_ := hok.tail
 obtain ⟨hr1_, hr2_⟩ := hok.res
 obtain ⟨hf1_, hf2_⟩ := hok.fl
 obtain ⟨hla1_, hla2_, hla3_⟩ := last_le hok
 have hfv_ : freeV n v = n * 64 - (v.tail - v.st) - v.res := rfl
 obtain ⟨x1, s2, rfl, f3⟩ := h_sb
 have hH4 : Has E w [[Hp.one sb (.cells #[(.int .i64 v.seq), (.int .i64 v.ep), (.int .i64 v.hcut), (.int .i64 v.st), (.int .i64 v.mrk), (.pointer (some ⟨db, 0, none⟩)), (.pointer (some ⟨ab, 0, none⟩)), x1, (.int .i64 v.tail), (.int .i64 v.flushed), (.int .i64 v.res), (.bool v.cut), (.int .i64 v.err)] 175 (0, 0))], s2, R] := Has.op2 hH
 refine zs (args := [(.pointer (some ⟨sb, 0, none⟩)), (.int .i64 g), (S s)]) Tryz.func121 rfl Tryz.ntmps121 (by simp) ?_
 refine wp_seq_k fun K5 hK5 => ?_
 refine Rest.region mixed (by kernel_rfl) ?_
 have hH6 : Has E { w with drawn := w.drawn + 1 } [[Hp.one sb (.cells #[(.int .i64 v.seq), (.int .i64 v.ep), (.int .i64 v.hcut), (.int .i64 v.st), (.int .i64 v.mrk), (.pointer (some ⟨db, 0, none⟩)), (.pointer (some ⟨ab, 0, none⟩)), x1, (.int .i64 v.tail), (.int .i64 v.flushed), (.int .i64 v.res), (.bool v.cut), (.int .i64 v.err)] 175 (0, 0))], s2, R] := Has0.drew hH4 _
 refine Rest.phaseA (fun w_ => Has E w_ [[Hp.one sb (.cells #[(.int .i64 v.seq), (.int .i64 v.ep), (.int .i64 v.hcut), (.int .i64 v.st), (.int .i64 v.mrk), (.pointer (some ⟨db, 0, none⟩)), (.pointer (some ⟨ab, 0, none⟩)), x1, (.int .i64 v.tail), (.int .i64 v.flushed), (.int .i64 v.res), (.bool v.cut), (.int .i64 v.err)] 175 (0, 0))]]) 0 14 14 rfl (by decide) (by kernel_rfl) ?_
 refine zr 0 rfl (by kernel_rfl) (fun w_ h_ => zd (v := (.pointer (some ⟨sb, 0, none⟩))) rfl ⟨rfl, rfl⟩) ?_
 refine zr 1 rfl (by kernel_rfl) (fun w_ h_ => zd (v := (.pointer (some ⟨sb, 0, none⟩))) rfl ⟨rfl, rfl⟩) ?_
 refine zr 2 rfl (by kernel_rfl) (fun w_ h_ => zl rfl ⟨rfl, rfl⟩) ?_
 refine zr 3 rfl (by kernel_rfl) (fun w_ h_ => zg (k := 7) (fun _ => by kernel_rfl) rfl ⟨rfl, rfl⟩) ?_
 refine zr 4 rfl (by kernel_rfl) (fun w_ h_ => zj (v := x1) Tryz.underlying37 rfl rfl h_ (zh 0 rfl) (CellsAt.one rfl) ⟨rfl, rfl⟩) ?_
 refine zr 5 rfl (by kernel_rfl) (fun w_ h_ => zd (v := (.int .i64 g)) rfl ⟨rfl, rfl⟩) ?_
 refine zr 6 rfl (by kernel_rfl) (fun w_ h_ => zd (v := (.pointer (some ⟨sb, 0, none⟩))) rfl ⟨rfl, rfl⟩) ?_
 refine zr 7 rfl (by kernel_rfl) (fun w_ h_ => zl rfl ⟨rfl, rfl⟩) ?_
 refine zr 8 rfl (by kernel_rfl) (fun w_ h_ => zg (k := 8) (fun _ => by kernel_rfl) rfl ⟨rfl, rfl⟩) ?_
 refine zr 9 rfl (by kernel_rfl) (fun w_ h_ => zj (v := (.int .i64 v.tail)) Tryz.underlying3 rfl rfl h_ (zh 0 rfl) (CellsAt.one rfl) ⟨rfl, rfl⟩) ?_
 refine zr 10 rfl (by kernel_rfl) (fun w_ h_ => zd (v := (S s)) rfl ⟨rfl, rfl⟩) ?_
 refine zr 11 rfl (by kernel_rfl) (fun w_ h_ => zK (v := (.agg #[(.int .i64 g), (.int .i64 v.tail), (S s)])) (fun _ => by kernel_rfl) ⟨rfl, rfl⟩) ?_
 have hH7 : Has E { w with drawn := w.drawn + 1 } [[Hp.one sb (.cells #[(.int .i64 v.seq), (.int .i64 v.ep), (.int .i64 v.hcut), (.int .i64 v.st), (.int .i64 v.mrk), (.pointer (some ⟨db, 0, none⟩)), (.pointer (some ⟨ab, 0, none⟩)), x1, (.int .i64 v.tail), (.int .i64 v.flushed), (.int .i64 v.res), (.bool v.cut), (.int .i64 v.err)] 175 (0, 0))]] := hH6.first 1 rfl
 refine a_w 12 rfl (by kernel_rfl) hH7 (zu (ps := #[(0, (.agg #[(.int .i64 g), (.int .i64 v.tail), (S s)]))]) (cells := #[(.int .i64 g), (.int .i64 v.tail), (S s)]) Tryz.underlying37 ti42 (by decide) (parts1 rfl) (by kernel_rfl) hH6 fun b8 w9 hH10 => ?_)
 have hH11 : Has E w9 [[Hp.one sb (.cells #[(.int .i64 v.seq), (.int .i64 v.ep), (.int .i64 v.hcut), (.int .i64 v.st), (.int .i64 v.mrk), (.pointer (some ⟨db, 0, none⟩)), (.pointer (some ⟨ab, 0, none⟩)), x1, (.int .i64 v.tail), (.int .i64 v.flushed), (.int .i64 v.res), (.bool v.cut), (.int .i64 v.err)] 175 (0, 0))]] := (hH10.front 1 rfl).first 1 rfl
 refine a_w 13 rfl (by kernel_rfl) hH11 (o_appendL Tryz.underlying37 ti42 rfl (by decide) rfl f3 rfl (sl_litF (f := enC) (l := [(LEnt.mk g v.tail s)]) enC_len rfl rfl (by simp)) (hH10.front 2 rfl) (zh 0 rfl) (one_enC _) (by simp only [List.length_cons, List.length_nil]; omega) (by simp only [List.length_cons, List.length_nil]; omega) fun v12 s13 w15 ho14 hH16 => ?_)
 have ho14 : OwnL 42 3 v12 (v.l ++ [(LEnt.mk g v.tail s)]).length ((v.l ++ [(LEnt.mk g v.tail s)]).flatMap enC) s13 := ho14.appF
 obtain ⟨p17, c18, rfl⟩ := Sl.form (OwnL.sl ho14)
 have hH19 : Has E w15 [[Hp.one sb (.cells #[(.int .i64 v.seq), (.int .i64 v.ep), (.int .i64 v.hcut), (.int .i64 v.st), (.int .i64 v.mrk), (.pointer (some ⟨db, 0, none⟩)), (.pointer (some ⟨ab, 0, none⟩)), x1, (.int .i64 v.tail), (.int .i64 v.flushed), (.int .i64 v.res), (.bool v.cut), (.int .i64 v.err)] 175 (0, 0))]] := (hH16.front 2 rfl).first 1 rfl
 refine zQ (by kernel_rfl) hH19 ?_
 refine zP 14 rfl (by kernel_rfl) (zl rfl ?_)
 refine zP 15 rfl (by kernel_rfl) (zg (k := 7) (fun _ => by kernel_rfl) rfl ?_)
 refine r_eff 16 rfl (by kernel_rfl) (zJ (c' := #[(.int .i64 v.seq), (.int .i64 v.ep), (.int .i64 v.hcut), (.int .i64 v.st), (.int .i64 v.mrk), (.pointer (some ⟨db, 0, none⟩)), (.pointer (some ⟨ab, 0, none⟩)), (.slice p17 (v.l ++ [(LEnt.mk g v.tail s)]).length c18), (.int .i64 v.tail), (.int .i64 v.flushed), (.int .i64 v.res), (.bool v.cut), (.int .i64 v.err)]) ti37 rfl rfl ho14.one (by simp) rfl (hH16.front 2 rfl) fun w20 hH21 => ?_)
 refine Rest.done (by kernel_rfl) ?_
 refine zc (hK5 _ _ ?_)
 refine Rest.region mixed (by kernel_rfl) ?_
 have hH22 : Has E { w20 with drawn := w20.drawn + 1 } [[Hp.one sb (.cells #[(.int .i64 v.seq), (.int .i64 v.ep), (.int .i64 v.hcut), (.int .i64 v.st), (.int .i64 v.mrk), (.pointer (some ⟨db, 0, none⟩)), (.pointer (some ⟨ab, 0, none⟩)), (.slice p17 (v.l ++ [(LEnt.mk g v.tail s)]).length c18), (.int .i64 v.tail), (.int .i64 v.flushed), (.int .i64 v.res), (.bool v.cut), (.int .i64 v.err)] 175 (0, 0))], s13, [Hp.one b8 (.cells #[(.int .i64 g), (.int .i64 v.tail), (S s)] 42 (0, 0))], R] := Has0.drew hH21 _
 refine Rest.phaseA (fun w_ => Has E w_ [[Hp.one sb (.cells #[(.int .i64 v.seq), (.int .i64 v.ep), (.int .i64 v.hcut), (.int .i64 v.st), (.int .i64 v.mrk), (.pointer (some ⟨db, 0, none⟩)), (.pointer (some ⟨ab, 0, none⟩)), (.slice p17 (v.l ++ [(LEnt.mk g v.tail s)]).length c18), (.int .i64 v.tail), (.int .i64 v.flushed), (.int .i64 v.res), (.bool v.cut), (.int .i64 v.err)] 175 (0, 0))]]) 0 7 7 rfl (by decide) (by kernel_rfl) ?_
 refine zr 0 rfl (by kernel_rfl) (fun w_ h_ => zd (v := (.pointer (some ⟨sb, 0, none⟩))) rfl ⟨rfl, rfl⟩) ?_
 refine zr 1 rfl (by kernel_rfl) (fun w_ h_ => zl rfl ⟨rfl, rfl⟩) ?_
 refine zr 2 rfl (by kernel_rfl) (fun w_ h_ => zg (k := 8) (fun _ => by kernel_rfl) rfl ⟨rfl, rfl⟩) ?_
 refine zr 3 rfl (by kernel_rfl) (fun w_ h_ => zj (v := (.int .i64 v.tail)) Tryz.underlying3 rfl rfl h_ (zh 0 rfl) (CellsAt.one rfl) ⟨rfl, rfl⟩) ?_
 refine zr 4 rfl (by kernel_rfl) (fun w_ h_ => zd (v := (S s)) rfl ⟨rfl, rfl⟩) ?_
 have hH23 : Has E { w20 with drawn := w20.drawn + 1 } [[Hp.one sb (.cells #[(.int .i64 v.seq), (.int .i64 v.ep), (.int .i64 v.hcut), (.int .i64 v.st), (.int .i64 v.mrk), (.pointer (some ⟨db, 0, none⟩)), (.pointer (some ⟨ab, 0, none⟩)), (.slice p17 (v.l ++ [(LEnt.mk g v.tail s)]).length c18), (.int .i64 v.tail), (.int .i64 v.flushed), (.int .i64 v.res), (.bool v.cut), (.int .i64 v.err)] 175 (0, 0))]] := hH22.first 1 rfl
 refine a_w 5 rfl (by kernel_rfl) hH23 (zu (ps := #[(0, (S s))]) (cells := #[(S s)]) Tryz.underlying46 ti9 (by decide) (parts1 rfl) (by kernel_rfl) hH22 fun b24 w25 hH26 => ?_)
 have hH27 : Has E w25 [[Hp.one sb (.cells #[(.int .i64 v.seq), (.int .i64 v.ep), (.int .i64 v.hcut), (.int .i64 v.st), (.int .i64 v.mrk), (.pointer (some ⟨db, 0, none⟩)), (.pointer (some ⟨ab, 0, none⟩)), (.slice p17 (v.l ++ [(LEnt.mk g v.tail s)]).length c18), (.int .i64 v.tail), (.int .i64 v.flushed), (.int .i64 v.res), (.bool v.cut), (.int .i64 v.err)] 175 (0, 0))]] := (hH26.front 1 rfl).first 1 rfl
 refine a_w 6 rfl (by kernel_rfl) hH27 (zk (vs := #[(.slice (some ⟨b24, 0, none⟩) 1 1)]) ca120 rfl (zF rfl) (size1_c hH26.all (s := s) ((zW (f := sV) (l := [s]) rfl rfl (by simp)).mono (zh 0 rfl)) (by omega)) ?_)
 rintro _ w30 ⟨rfl, hX28⟩
 refine ⟨_, rfl, ?_⟩
 have hH29 := hX28.of_all
 have hH31 : Has E w30 [[Hp.one sb (.cells #[(.int .i64 v.seq), (.int .i64 v.ep), (.int .i64 v.hcut), (.int .i64 v.st), (.int .i64 v.mrk), (.pointer (some ⟨db, 0, none⟩)), (.pointer (some ⟨ab, 0, none⟩)), (.slice p17 (v.l ++ [(LEnt.mk g v.tail s)]).length c18), (.int .i64 v.tail), (.int .i64 v.flushed), (.int .i64 v.res), (.bool v.cut), (.int .i64 v.err)] 175 (0, 0))]] := (hH29.front 1 rfl).first 1 rfl
 refine zQ (by kernel_rfl) hH31 ?_
 refine zP 7 rfl (by kernel_rfl) (zH (a := v.tail) (b := 25 + (s.length : Int)) rfl rfl (w64 (by omega) (by omega)) ?_)
 refine zP 8 rfl (by kernel_rfl) (zl rfl ?_)
 refine zP 9 rfl (by kernel_rfl) (zg (k := 8) (fun _ => by kernel_rfl) rfl ?_)
 refine r_eff 10 rfl (by kernel_rfl) (zJ (c' := #[(.int .i64 v.seq), (.int .i64 v.ep), (.int .i64 v.hcut), (.int .i64 v.st), (.int .i64 v.mrk), (.pointer (some ⟨db, 0, none⟩)), (.pointer (some ⟨ab, 0, none⟩)), (.slice p17 (v.l ++ [(LEnt.mk g v.tail s)]).length c18), (.int .i64 (v.tail + (25 + (s.length : Int)))), (.int .i64 v.flushed), (.int .i64 v.res), (.bool v.cut), (.int .i64 v.err)]) ti3 rfl rfl rfl (by simp) rfl (hH29.front 1 rfl) fun w32 hH33 => ?_)
 refine Rest.done (by kernel_rfl) ?_
 refine c_end0 Tryz.results121  ?_
 have hH34 : Has E w32 [([Hp.one sb (.cells #[(.int .i64 v.seq), (.int .i64 v.ep), (.int .i64 v.hcut), (.int .i64 v.st), (.int .i64 v.mrk), (.pointer (some ⟨db, 0, none⟩)), (.pointer (some ⟨ab, 0, none⟩)), (.slice p17 (v.l ++ [(LEnt.mk g v.tail s)]).length c18), (.int .i64 (v.tail + (25 + (s.length : Int)))), (.int .i64 v.flushed), (.int .i64 v.res), (.bool v.cut), (.int .i64 v.err)] 175 (0, 0))] ++ s13), [Hp.one b24 (.cells #[(S s)] 9 (0, 0))], [Hp.one b8 (.cells #[(.int .i64 g), (.int .i64 v.tail), (S s)] 42 (0, 0))], R] := Has.cl2 ((hH33.front 2 rfl).front 1 rfl)
 have hd35 : StmAt db ab sb ([Hp.one sb (.cells #[(.int .i64 v.seq), (.int .i64 v.ep), (.int .i64 v.hcut), (.int .i64 v.st), (.int .i64 v.mrk), (.pointer (some ⟨db, 0, none⟩)), (.pointer (some ⟨ab, 0, none⟩)), (.slice p17 (v.l ++ [(LEnt.mk g v.tail s)]).length c18), (.int .i64 (v.tail + (25 + (s.length : Int)))), (.int .i64 v.flushed), (.int .i64 v.res), (.bool v.cut), (.int .i64 v.err)] 175 (0, 0))] ++ s13) (⟨v.seq, v.ep, v.hcut, v.st, v.mrk, v.l ++ [(LEnt.mk g v.tail s)], v.tail + (25 + (s.length : Int)), v.flushed, v.res, v.cut, v.err⟩ : StmS) := StmAt.mk (v := (⟨v.seq, v.ep, v.hcut, v.st, v.mrk, v.l ++ [(LEnt.mk g v.tail s)], v.tail + (25 + (s.length : Int)), v.flushed, v.res, v.cut, v.err⟩ : StmS)) ho14
 have q36 : (layS v g s) = (⟨v.seq, v.ep, v.hcut, v.st, v.mrk, v.l ++ [(LEnt.mk g v.tail s)], v.tail + (25 + (s.length : Int)), v.flushed, v.res, v.cut, v.err⟩ : StmS) := by rfl
 have hH37 : Has E w32 [([Hp.one sb (.cells #[(.int .i64 v.seq), (.int .i64 v.ep), (.int .i64 v.hcut), (.int .i64 v.st), (.int .i64 v.mrk), (.pointer (some ⟨db, 0, none⟩)), (.pointer (some ⟨ab, 0, none⟩)), (.slice p17 (v.l ++ [(LEnt.mk g v.tail s)]).length c18), (.int .i64 (v.tail + (25 + (s.length : Int)))), (.int .i64 v.flushed), (.int .i64 v.res), (.bool v.cut), (.int .i64 v.err)] 175 (0, 0))] ++ s13), R] := ((hH34.front 3 rfl).front 1 rfl).first 2 rfl
 exact ⟨_, rfl, (by rw [q36]; exact hd35), hH37⟩
end Go.Q
namespace Go.Q
open Go.Proofs
set_option linter.unusedVariables false
set_option maxRecDepth 100000
attribute [local irreducible] wpList OK Code.wp
set_option maxHeartbeats 4000000 in
theorem sappend_c {E w : World} {R : List Hp} {sb : Nat} {sg_sb : List Hp} {db : Nat} {ab : Nat} {v : StmS} {g : Int} {v_ds : Value} {ds : List (List UInt8)} {n : Int} (hH : Has E w [sg_sb, R]) (h_sb : StmAt db ab sb sg_sb v) (h_ds : Sl R 1 v_ds ds.length (ds.map sV)) (h_ab : CellsAt R ab 0 [.pointer (some ⟨db, 0, none⟩), .int .i64 2, .int .i64 n]) (hok : StmOk n v) (hdn : ds.length ≤ 1000000) (hdl : ds.flatten.length ≤ 100000000) :
  Calls Tryz.prog 30 #[(.pointer (some ⟨sb, 0, none⟩)), (.int .i64 g), v_ds] w fun e w' => ∃ (sg_sb' : List Hp), e = .returned (.int .i64 (apE n v g ds.flatten)) ∧ (StmAt db ab sb sg_sb' (apS n v g ds.flatten)) ∧ Has E w' [sg_sb', R] := by
 obtain ⟨hle1_, hle2_⟩ := hok.le
 obtain ⟨hn1_, hn2_⟩ := hok.num
 obtain ⟨hm1_, hm2_⟩ := hok.mrk
 obtain ⟨hs1_, hs2_⟩ := hok.st
 have ht_ := hok.tail
 obtain ⟨hr1_, hr2_⟩ := hok.res
 obtain ⟨hf1_, hf2_⟩ := hok.fl
 obtain ⟨hla1_, hla2_, hla3_⟩ := last_le hok
 have hfv_ : freeV n v = n * 64 - (v.tail - v.st) - v.res := rfl
 obtain ⟨x1, s2, rfl, f3⟩ := h_sb
 have hH4 : Has E w [[Hp.one sb (.cells #[(.int .i64 v.seq), (.int .i64 v.ep), (.int .i64 v.hcut), (.int .i64 v.st), (.int .i64 v.mrk), (.pointer (some ⟨db, 0, none⟩)), (.pointer (some ⟨ab, 0, none⟩)), x1, (.int .i64 v.tail), (.int .i64 v.flushed), (.int .i64 v.res), (.bool v.cut), (.int .i64 v.err)] 175 (0, 0))], s2, R] := Has.op2 hH
 refine zs (args := [(.pointer (some ⟨sb, 0, none⟩)), (.int .i64 g), v_ds]) Tryz.func30 rfl Tryz.ntmps30 (by simp) ?_
 refine wp_seq_k fun K5 hK5 => ?_
 refine zb ?_
 refine za (ze (v := (.int .i64 0)) rfl ?_)
 refine zf ?_
 refine zc (hK5 _ _ ?_)
 refine wp_seq_k fun K6 hK6 => ?_
 refine zb ?_
 refine za (zd (v := v_ds) rfl ?_)
 refine za (zk (vs := #[v_ds, (S ([] : List UInt8))]) ca118 rfl (zI rfl rfl) (join_c hH4.all (l := ds) (h_ds.mono (zh 2 rfl)) (by omega) (by omega)) ?_)
 rintro _ w9 ⟨rfl, hX7⟩
 refine ⟨_, rfl, ?_⟩
 have hH8 := hX7.of_all
 refine za (ze (v := (S ds.flatten)) rfl ?_)
 refine zf ?_
 refine zc (hK6 _ _ ?_)
 refine wp_seq_k fun K10 hK10 => ?_
 refine wp_seq_k fun K11 hK11 => ?_
 refine zb ?_
 refine za (zd (v := (.pointer (some ⟨sb, 0, none⟩))) rfl ?_)
 refine za (zd (v := (.int .i64 g)) rfl ?_)
 refine za (zd (v := (S ds.flatten)) rfl ?_)
 refine za (yb Tryz.underlying9 rfl ?_)
 refine za (zk (vs := #[(.pointer (some ⟨sb, 0, none⟩)), (.int .i64 g), (.int .i64 (ds.flatten.length : Int))]) ca119 rfl (args3 rfl rfl rfl) (smay_c (v := v) (db := db) (ab := ab) (g := g) (size := (ds.flatten.length : Int)) (n := n) hH8.all (StmRd.mk (v := v) ((CellsAt.one rfl).mono (zh 0 rfl)) (f3.sl.mono (zh 1 rfl))) hok) ?_)
 rintro _ w14 ⟨rfl, hX12⟩
 refine ⟨_, rfl, ?_⟩
 have hH13 := hX12.of_all
 refine za (ze (v := (.int .i64 (mayL v g (ds.flatten.length : Int)))) rfl ?_)
 refine zf ?_
 refine zc (hK11 _ _ ?_)
 refine wp_seq_k fun K15 hK15 => ?_
 refine zb ?_
 refine za (zd (v := (.int .i64 (mayL v g (ds.flatten.length : Int)))) rfl ?_)
 refine za (o_neq (a := (mayL v g (ds.flatten.length : Int))) (b := 0) rfl rfl ?_)
 refine zf ?_
 refine zc (hK15 _ _ ?_)
 refine zt rfl (fun h16 => ?_) (fun h16 => ?_)
 ·
  refine wp_seq_k fun K17 hK17 => ?_
  refine zb ?_
  refine za (zd (v := (.int .i64 (mayL v g (ds.flatten.length : Int)))) rfl ?_)
  refine za (ze (v := (.int .i64 (mayL v g (ds.flatten.length : Int)))) rfl ?_)
  refine zf ?_
  refine zc (hK17 _ _ ?_)
  refine wp_ret ?_
  refine zv (zq Tryz.results30  (v := (.int .i64 (mayL v g (ds.flatten.length : Int)))) rfl ?_)
  have q18 : (apE n v g ds.flatten) = (mayL v g (ds.flatten.length : Int)) := by unfold apE; rw [if_pos h16]
  have hH19 : Has E w14 [([Hp.one sb (.cells #[(.int .i64 v.seq), (.int .i64 v.ep), (.int .i64 v.hcut), (.int .i64 v.st), (.int .i64 v.mrk), (.pointer (some ⟨db, 0, none⟩)), (.pointer (some ⟨ab, 0, none⟩)), x1, (.int .i64 v.tail), (.int .i64 v.flushed), (.int .i64 v.res), (.bool v.cut), (.int .i64 v.err)] 175 (0, 0))] ++ s2), R] := Has.cl2 ((hH13.front 1 rfl).front 1 rfl)
  have hd20 : StmAt db ab sb ([Hp.one sb (.cells #[(.int .i64 v.seq), (.int .i64 v.ep), (.int .i64 v.hcut), (.int .i64 v.st), (.int .i64 v.mrk), (.pointer (some ⟨db, 0, none⟩)), (.pointer (some ⟨ab, 0, none⟩)), x1, (.int .i64 v.tail), (.int .i64 v.flushed), (.int .i64 v.res), (.bool v.cut), (.int .i64 v.err)] 175 (0, 0))] ++ s2) v := StmAt.mk (v := v) f3
  have q21 : (apS n v g ds.flatten) = v := by unfold apS; rw [if_neg (by unfold apE; rw [if_pos h16]; first | decide | exact h16)]
  exact ⟨_, by rw [q18], (by rw [q21]; exact hd20), hH19⟩
 ·
  have hmy_ := mayL_zero (Classical.not_not.1 h16)
  refine wp_skip ?_
  refine zc (hK10 _ _ ?_)
  refine wp_seq_k fun K22 hK22 => ?_
  refine wp_seq_k fun K23 hK23 => ?_
  refine zb ?_
  refine za (zd (v := (S ds.flatten)) rfl ?_)
  refine za (zu (ps := #[(0, (S ds.flatten))]) (cells := #[(S ds.flatten)]) Tryz.underlying46 ti9 (by decide) (parts1 rfl) (by kernel_rfl) hH13 fun b24 w25 hH26 => ?_)
  refine za (zk (vs := #[(.slice (some ⟨b24, 0, none⟩) 1 1)]) ca120 rfl (zF rfl) (size1_c hH26.all (s := ds.flatten) ((zW (f := sV) (l := [ds.flatten]) rfl rfl (by simp)).mono (zh 0 rfl)) (by omega)) ?_)
  rintro _ w29 ⟨rfl, hX27⟩
  refine ⟨_, rfl, ?_⟩
  have hH28 := hX27.of_all
  refine za (zd (v := (.pointer (some ⟨sb, 0, none⟩))) rfl ?_)
  refine za (zk (vs := #[(.pointer (some ⟨sb, 0, none⟩))]) ca38 rfl (zF rfl) (sfree_c (v := v) (db := db) (ab := ab) (n := n) hH28.all (StmRd.mk (v := v) ((CellsAt.one rfl).mono (zh 1 rfl)) (f3.sl.mono (zh 2 rfl))) (h_ab.mono (zh 3 rfl)) hok) ?_)
  rintro _ w32 ⟨rfl, hX30⟩
  refine ⟨_, rfl, ?_⟩
  have hH31 := hX30.of_all
  refine za (o_gtr (a := 25 + (ds.flatten.length : Int)) (b := (freeV n v)) rfl rfl ?_)
  refine zf ?_
  refine zc (hK23 _ _ ?_)
  refine zt rfl (fun h33 => ?_) (fun h33 => ?_)
  ·
   refine wp_seq_k fun K34 hK34 => ?_
   refine zb ?_
   refine za (ze (v := (.int .i64 5)) rfl ?_)
   refine zf ?_
   refine zc (hK34 _ _ ?_)
   refine wp_ret ?_
   refine zv (zq Tryz.results30  (v := (.int .i64 5)) rfl ?_)
   have q35 : (apE n v g ds.flatten) = 5 := by unfold apE; rw [if_neg h16, if_pos h33]
   have hH36 : Has E w32 [([Hp.one sb (.cells #[(.int .i64 v.seq), (.int .i64 v.ep), (.int .i64 v.hcut), (.int .i64 v.st), (.int .i64 v.mrk), (.pointer (some ⟨db, 0, none⟩)), (.pointer (some ⟨ab, 0, none⟩)), x1, (.int .i64 v.tail), (.int .i64 v.flushed), (.int .i64 v.res), (.bool v.cut), (.int .i64 v.err)] 175 (0, 0))] ++ s2), [Hp.one b24 (.cells #[(S ds.flatten)] 9 (0, 0))], R] := Has.cl2 ((hH31.front 2 rfl).front 2 rfl)
   have hd37 : StmAt db ab sb ([Hp.one sb (.cells #[(.int .i64 v.seq), (.int .i64 v.ep), (.int .i64 v.hcut), (.int .i64 v.st), (.int .i64 v.mrk), (.pointer (some ⟨db, 0, none⟩)), (.pointer (some ⟨ab, 0, none⟩)), x1, (.int .i64 v.tail), (.int .i64 v.flushed), (.int .i64 v.res), (.bool v.cut), (.int .i64 v.err)] 175 (0, 0))] ++ s2) v := StmAt.mk (v := v) f3
   have q38 : (apS n v g ds.flatten) = v := by unfold apS; rw [if_neg (by unfold apE; rw [if_neg h16, if_pos h33]; first | decide | exact h33)]
   have hH39 : Has E w32 [([Hp.one sb (.cells #[(.int .i64 v.seq), (.int .i64 v.ep), (.int .i64 v.hcut), (.int .i64 v.st), (.int .i64 v.mrk), (.pointer (some ⟨db, 0, none⟩)), (.pointer (some ⟨ab, 0, none⟩)), x1, (.int .i64 v.tail), (.int .i64 v.flushed), (.int .i64 v.res), (.bool v.cut), (.int .i64 v.err)] 175 (0, 0))] ++ s2), R] := ((hH36.front 2 rfl).front 1 rfl).first 2 rfl
   exact ⟨_, by rw [q35], (by rw [q38]; exact hd37), hH39⟩
  ·
   refine wp_skip ?_
   refine zc (hK22 _ _ ?_)
   refine wp_seq_k fun K40 hK40 => ?_
   refine zb ?_
   refine za (zd (v := (.pointer (some ⟨sb, 0, none⟩))) rfl ?_)
   refine za (zd (v := (.int .i64 g)) rfl ?_)
   refine za (zd (v := (S ds.flatten)) rfl ?_)
   have hH41 : Has E w32 [([Hp.one sb (.cells #[(.int .i64 v.seq), (.int .i64 v.ep), (.int .i64 v.hcut), (.int .i64 v.st), (.int .i64 v.mrk), (.pointer (some ⟨db, 0, none⟩)), (.pointer (some ⟨ab, 0, none⟩)), x1, (.int .i64 v.tail), (.int .i64 v.flushed), (.int .i64 v.res), (.bool v.cut), (.int .i64 v.err)] 175 (0, 0))] ++ s2), [Hp.one b24 (.cells #[(S ds.flatten)] 9 (0, 0))], R] := Has.cl2 ((hH31.front 2 rfl).front 2 rfl)
   have hd42 : StmAt db ab sb ([Hp.one sb (.cells #[(.int .i64 v.seq), (.int .i64 v.ep), (.int .i64 v.hcut), (.int .i64 v.st), (.int .i64 v.mrk), (.pointer (some ⟨db, 0, none⟩)), (.pointer (some ⟨ab, 0, none⟩)), x1, (.int .i64 v.tail), (.int .i64 v.flushed), (.int .i64 v.res), (.bool v.cut), (.int .i64 v.err)] 175 (0, 0))] ++ s2) v := StmAt.mk (v := v) f3
   refine za (zk (vs := #[(.pointer (some ⟨sb, 0, none⟩)), (.int .i64 g), (S ds.flatten)]) ca121 rfl (args3 rfl rfl rfl) (slay_c (db := db) (ab := ab) (v := v) (g := g) (s := ds.flatten) (n := n) hH41.all1 hd42 hok (by first | omega | (simp only []; omega) | (simp; done) | (simp; omega))) ?_)
   rintro _ w47 ⟨sg43, rfl, hd44, hX45⟩
   refine ⟨_, rfl, ?_⟩
   have hH46 : Has E w47 [sg43, [Hp.one b24 (.cells #[(S ds.flatten)] 9 (0, 0))], R] := hX45.of_all1
   refine zf ?_
   refine zc (hK40 _ _ ?_)
   refine wp_seq_k fun K48 hK48 => ?_
   refine zb ?_
   refine za (ze (v := (.int .i64 0)) rfl ?_)
   refine zf ?_
   refine zc (hK48 _ _ ?_)
   refine wp_ret ?_
   refine zq Tryz.results30  (v := (.int .i64 0)) rfl ?_
   have q49 : (apE n v g ds.flatten) = 0 := by unfold apE; rw [if_neg h16, if_neg h33]
   have q50 : (apS n v g ds.flatten) = (layS v g ds.flatten) := by unfold apS; rw [if_pos (by unfold apE; rw [if_neg h16, if_neg h33])]
   have hH51 : Has E w47 [sg43, R] := ((hH46.front 2 rfl).front 1 rfl).first 2 rfl
   exact ⟨_, by rw [q49], (by rw [q50]; exact hd44), hH51⟩
end Go.Q
namespace Go.Q
open Go.Proofs
set_option linter.unusedVariables false
set_option maxRecDepth 100000
attribute [local irreducible] wpList OK Code.wp
set_option maxHeartbeats 4000000 in
theorem use_c {E w : World} {R : List Hp} {pb : Nat} {p : Pw} (hH : Has E w [[Hp.one pb (.cells #[(.bool p.off), (.bool p.armed), (.int .i64 p.left), (.int .i64 p.uses)] 145 (0, 0))], R]) (hp : PwOk p) :
  Calls Tryz.prog 124 #[(.pointer (some ⟨pb, 0, none⟩))] w fun e w' => e = .returned (.bool (useB p)) ∧ Has E w' [[Hp.one pb (.cells #[(.bool (useS p).off), (.bool (useS p).armed), (.int .i64 (useS p).left), (.int .i64 (useS p).uses)] 145 (0, 0))], R] := by
 obtain ⟨hu1, hu2, hu3, hu4⟩ := hp
 refine zs (args := [(.pointer (some ⟨pb, 0, none⟩))]) Tryz.func124 rfl Tryz.ntmps124 (by simp) ?_
 refine wp_seq_k fun K1 hK1 => ?_
 refine zb ?_
 refine za (ze (v := (.bool false)) rfl ?_)
 refine zf ?_
 refine zc (hK1 _ _ ?_)
 refine wp_seq_k fun K2 hK2 => ?_
 refine wp_seq_k fun K3 hK3 => ?_
 refine zb ?_
 refine za (zd (v := (.pointer (some ⟨pb, 0, none⟩))) rfl ?_)
 refine za (zl rfl ?_)
 refine za (zg (k := 0) (fun _ => by kernel_rfl) rfl ?_)
 refine za (zj (v := (.bool p.off)) Tryz.underlying4 rfl rfl hH (zh 0 rfl) (CellsAt.one rfl) ?_)
 refine zf ?_
 refine zc (hK3 _ _ ?_)
 refine zX rfl (fun h4 => ?_) (fun h4 => ?_)
 ·
  refine wp_seq_k fun K5 hK5 => ?_
  refine zb ?_
  refine za (ze (v := (.bool false)) rfl ?_)
  refine zf ?_
  refine zc (hK5 _ _ ?_)
  refine wp_ret ?_
  refine zv (zq Tryz.results124  (v := (.bool false)) rfl ?_)
  have e_ : useS p = p := by simp [useS, h4]
  exact ⟨by simp [useB, h4], by rw [e_]; exact hH⟩
 ·
  refine wp_skip ?_
  refine zc (hK2 _ _ ?_)
  refine wp_seq_k fun K6 hK6 => ?_
  refine zb ?_
  refine za (zd (v := (.pointer (some ⟨pb, 0, none⟩))) rfl ?_)
  refine za (zl rfl ?_)
  refine za (zg (k := 3) (fun _ => by kernel_rfl) rfl ?_)
  refine za (zj (v := (.int .i64 p.uses)) Tryz.underlying3 rfl rfl hH (zh 0 rfl) (CellsAt.one rfl) ?_)
  refine za (zH (a := p.uses) (b := 1) rfl rfl (w64 (by omega) (by omega)) ?_)
  refine za (zl rfl ?_)
  refine za (zg (k := 3) (fun _ => by kernel_rfl) rfl ?_)
  refine zB (zJ (c' := #[(.bool p.off), (.bool p.armed), (.int .i64 p.left), (.int .i64 (p.uses + 1))]) ti3 rfl rfl rfl (by simp) rfl (hH.front 0 rfl) fun w7 hH8 => ?_)
  refine zf ?_
  refine zc (hK6 _ _ ?_)
  refine wp_seq_k fun K9 hK9 => ?_
  refine zb ?_
  refine za (zd (v := (.pointer (some ⟨pb, 0, none⟩))) rfl ?_)
  refine za (zd (v := (.pointer (some ⟨pb, 0, none⟩))) rfl ?_)
  refine za (zl rfl ?_)
  refine za (zg (k := 1) (fun _ => by kernel_rfl) rfl ?_)
  refine za (zj (v := (.bool p.armed)) Tryz.underlying4 rfl rfl hH8 (zh 0 rfl) (CellsAt.one rfl) ?_)
  refine za (zd (v := (.bool p.armed)) rfl ?_)
  rcases Bool.eq_false_or_eq_true p.armed with h10 | h10
  ·
   refine zn 19 rfl (congrArg Value.bool h10) (zd (v := (.pointer (some ⟨pb, 0, none⟩))) rfl ?_)
   refine zn 19 rfl (congrArg Value.bool h10) (zl rfl ?_)
   refine zn 19 rfl (congrArg Value.bool h10) (zg (k := 2) (fun _ => by kernel_rfl) rfl ?_)
   refine zn 19 rfl (congrArg Value.bool h10) (zj (v := (.int .i64 p.left)) Tryz.underlying3 rfl rfl hH8 (zh 0 rfl) (CellsAt.one rfl) ?_)
   refine zn 19 rfl (congrArg Value.bool h10) (yd (a := p.left) (b := 0) rfl rfl ?_)
   refine za (zo (u := (.bool (decide (p.left = 0)))) ((rfl : _ = _).trans (congrArg Value.bool h10)) rfl ?_)
   refine za (zl rfl ?_)
   refine za (zg (k := 0) (fun _ => by kernel_rfl) rfl ?_)
   refine zB (zJ (c' := #[(.bool (decide (p.left = 0))), (.bool p.armed), (.int .i64 p.left), (.int .i64 (p.uses + 1))]) ti4 rfl rfl rfl (by simp) rfl (hH8.front 0 rfl) fun w11 hH12 => ?_)
   refine zf ?_
   refine zc (hK9 _ _ ?_)
   refine wp_seq_k fun K13 hK13 => ?_
   refine zb ?_
   refine za (zd (v := (.pointer (some ⟨pb, 0, none⟩))) rfl ?_)
   refine za (zl rfl ?_)
   refine za (zg (k := 2) (fun _ => by kernel_rfl) rfl ?_)
   refine za (zj (v := (.int .i64 p.left)) Tryz.underlying3 rfl rfl hH12 (zh 0 rfl) (CellsAt.one rfl) ?_)
   refine za (o_sub (a := p.left) (b := 1) rfl rfl (w64 (by omega) (by omega)) ?_)
   refine za (zl rfl ?_)
   refine za (zg (k := 2) (fun _ => by kernel_rfl) rfl ?_)
   refine zB (zJ (c' := #[(.bool (decide (p.left = 0))), (.bool p.armed), (.int .i64 (p.left - 1)), (.int .i64 (p.uses + 1))]) ti3 rfl rfl rfl (by simp) rfl (hH12.front 0 rfl) fun w14 hH15 => ?_)
   refine zf ?_
   refine zc (hK13 _ _ ?_)
   refine wp_seq_k fun K16 hK16 => ?_
   refine zb ?_
   refine za (zd (v := (.pointer (some ⟨pb, 0, none⟩))) rfl ?_)
   refine za (zl rfl ?_)
   refine za (zg (k := 0) (fun _ => by kernel_rfl) rfl ?_)
   refine za (zj (v := (.bool (decide (p.left = 0)))) Tryz.underlying4 rfl rfl hH15 (zh 0 rfl) (CellsAt.one rfl) ?_)
   refine za (o_not2 (b := decide (p.left = 0)) (b' := decide (¬ (p.left = 0))) rfl not_dec ?_)
   refine za (ze (v := (.bool (decide (¬ (p.left = 0))))) rfl ?_)
   refine zf ?_
   refine zc (hK16 _ _ ?_)
   refine wp_ret ?_
   refine zq Tryz.results124  (v := (.bool (decide (¬ (p.left = 0))))) rfl ?_
   have e_ : useS p = ⟨decide (p.left = 0), p.armed, p.left - 1, p.uses + 1⟩ := by simp [useS, h4, h10]
   exact ⟨by simp [useB, e_, h4, h10], by rw [e_]; exact hH15⟩
  ·
   refine zi (b' := false) 19 rfl (congrArg Value.bool h10) rfl ?_
   refine zi (b' := false) 19 rfl (congrArg Value.bool h10) rfl ?_
   refine zi (b' := false) 19 rfl (congrArg Value.bool h10) rfl ?_
   refine zi (b' := false) 19 rfl (congrArg Value.bool h10) rfl ?_
   refine zi (b' := false) 19 rfl (congrArg Value.bool h10) rfl ?_
   refine za (zm (u := (.bool false)) ((rfl : _ = _).trans (congrArg Value.bool h10)) rfl ?_)
   refine za (zl rfl ?_)
   refine za (zg (k := 0) (fun _ => by kernel_rfl) rfl ?_)
   refine zB (zJ (c' := #[(.bool false), (.bool p.armed), (.int .i64 p.left), (.int .i64 (p.uses + 1))]) ti4 rfl rfl rfl (by simp) rfl (hH8.front 0 rfl) fun w17 hH18 => ?_)
   refine zf ?_
   refine zc (hK9 _ _ ?_)
   refine wp_seq_k fun K19 hK19 => ?_
   refine zb ?_
   refine za (zd (v := (.pointer (some ⟨pb, 0, none⟩))) rfl ?_)
   refine za (zl rfl ?_)
   refine za (zg (k := 2) (fun _ => by kernel_rfl) rfl ?_)
   refine za (zj (v := (.int .i64 p.left)) Tryz.underlying3 rfl rfl hH18 (zh 0 rfl) (CellsAt.one rfl) ?_)
   refine za (o_sub (a := p.left) (b := 1) rfl rfl (w64 (by omega) (by omega)) ?_)
   refine za (zl rfl ?_)
   refine za (zg (k := 2) (fun _ => by kernel_rfl) rfl ?_)
   refine zB (zJ (c' := #[(.bool false), (.bool p.armed), (.int .i64 (p.left - 1)), (.int .i64 (p.uses + 1))]) ti3 rfl rfl rfl (by simp) rfl (hH18.front 0 rfl) fun w20 hH21 => ?_)
   refine zf ?_
   refine zc (hK19 _ _ ?_)
   refine wp_seq_k fun K22 hK22 => ?_
   refine zb ?_
   refine za (zd (v := (.pointer (some ⟨pb, 0, none⟩))) rfl ?_)
   refine za (zl rfl ?_)
   refine za (zg (k := 0) (fun _ => by kernel_rfl) rfl ?_)
   refine za (zj (v := (.bool false)) Tryz.underlying4 rfl rfl hH21 (zh 0 rfl) (CellsAt.one rfl) ?_)
   refine za (o_not rfl ?_)
   refine za (ze (v := (.bool true)) rfl ?_)
   refine zf ?_
   refine zc (hK22 _ _ ?_)
   refine wp_ret ?_
   refine zq Tryz.results124  (v := (.bool true)) rfl ?_
   have e_ : useS p = ⟨false, p.armed, p.left - 1, p.uses + 1⟩ := by simp [useS, h4, h10]
   exact ⟨by simp [useB, e_, h4, h10], by rw [e_]; exact hH21⟩
set_option maxHeartbeats 4000000 in
theorem pon_c {E w : World} {R : List Hp} {pb : Nat} {p : Pw} (hH : Has E w [[Hp.one pb (.cells #[(.bool p.off), (.bool p.armed), (.int .i64 p.left), (.int .i64 p.uses)] 145 (0, 0))], R]) :
  Calls Tryz.prog 165 #[(.pointer (some ⟨pb, 0, none⟩))] w fun e w' => e = .returned (.bool (!p.off)) ∧ Has E w' [[Hp.one pb (.cells #[(.bool p.off), (.bool p.armed), (.int .i64 p.left), (.int .i64 p.uses)] 145 (0, 0))], R] := by
 refine zs (args := [(.pointer (some ⟨pb, 0, none⟩))]) Tryz.func165 rfl Tryz.ntmps165 (by simp) ?_
 refine wp_seq_k fun K1 hK1 => ?_
 refine zb ?_
 refine za (ze (v := (.bool false)) rfl ?_)
 refine zf ?_
 refine zc (hK1 _ _ ?_)
 refine wp_seq_k fun K2 hK2 => ?_
 refine zb ?_
 refine za (zd (v := (.pointer (some ⟨pb, 0, none⟩))) rfl ?_)
 refine za (o_pnnil (p := some _) Tryz.underlying97 rfl rfl ?_)
 refine za (zd (v := (.bool true)) rfl ?_)
 refine zn 5 rfl rfl (zd (v := (.pointer (some ⟨pb, 0, none⟩))) rfl ?_)
 refine zn 5 rfl rfl (zl rfl ?_)
 refine zn 5 rfl rfl (zg (k := 0) (fun _ => by kernel_rfl) rfl ?_)
 refine zn 5 rfl rfl (zj (v := (.bool p.off)) Tryz.underlying4 rfl rfl hH (zh 0 rfl) (CellsAt.one rfl) ?_)
 refine zn 5 rfl rfl (o_not rfl ?_)
 refine za (zo (u := (.bool (!p.off))) rfl rfl ?_)
 refine za (ze (v := (.bool (!p.off))) rfl ?_)
 refine zf ?_
 refine zc (hK2 _ _ ?_)
 refine wp_ret ?_
 refine zq Tryz.results165  (v := (.bool (!p.off))) rfl ?_
 exact ⟨rfl, hH⟩
set_option maxHeartbeats 4000000 in
theorem pback_c {E w : World} {R : List Hp} {pb : Nat} {p : Pw} (hH : Has E w [[Hp.one pb (.cells #[(.bool p.off), (.bool p.armed), (.int .i64 p.left), (.int .i64 p.uses)] 145 (0, 0))], R]) :
  Calls Tryz.prog 113 #[(.pointer (some ⟨pb, 0, none⟩))] w fun e w' => e = .returned (.tuple #[]) ∧ Has E w' [[Hp.one pb (.cells #[(.bool (backS p).off), (.bool (backS p).armed), (.int .i64 (backS p).left), (.int .i64 (backS p).uses)] 145 (0, 0))], R] := by
 refine zs (args := [(.pointer (some ⟨pb, 0, none⟩))]) Tryz.func113 rfl Tryz.ntmps113 (by simp) ?_
 refine zb ?_
 refine za (zd (v := (.pointer (some ⟨pb, 0, none⟩))) rfl ?_)
 refine za (zd (v := (.pointer (some ⟨pb, 0, none⟩))) rfl ?_)
 refine za (zl rfl ?_)
 refine za (zg (k := 0) (fun _ => by kernel_rfl) rfl ?_)
 refine zB (zJ (c' := #[(.bool false), (.bool p.armed), (.int .i64 p.left), (.int .i64 p.uses)]) ti4 rfl rfl rfl (by simp) rfl (hH.front 0 rfl) fun w1 hH2 => ?_)
 refine za (zl rfl ?_)
 refine za (zg (k := 1) (fun _ => by kernel_rfl) rfl ?_)
 refine zB (zJ (c' := #[(.bool false), (.bool false), (.int .i64 p.left), (.int .i64 p.uses)]) ti4 rfl rfl rfl (by simp) rfl (hH2.front 0 rfl) fun w3 hH4 => ?_)
 refine zf ?_
 refine c_end0 Tryz.results113  ?_
 exact ⟨rfl, hH4⟩
end Go.Q
namespace Go.Q
open Go.Proofs
set_option linter.unusedVariables false
set_option maxRecDepth 100000
attribute [local irreducible] wpList OK Code.wp
set_option maxHeartbeats 4000000 in
theorem blank_c {E w : World} {R : List Hp} (hH : Has E w [R]) :
  Calls Tryz.prog 87 #[] w fun e w' => e = .returned (S blankS) ∧ Has E w' [R] := by
 refine zs (args := []) Tryz.func87 rfl Tryz.ntmps87 (by simp) ?_
 refine wp_seq_k fun K1 hK1 => ?_
 refine zb ?_
 refine za (ze (v := (S ([] : List UInt8))) rfl ?_)
 refine zf ?_
 refine zc (hK1 _ _ ?_)
 refine wp_seq_k fun K2 hK2 => ?_
 refine zb ?_
 refine za (zk (vs := #[(S [0]), (.int .i64 64)]) ca91 rfl (zI rfl rfl) (repeat_c hH.all 64 (by decide)) ?_)
 rintro _ w5 ⟨rfl, hX3⟩
 refine ⟨_, rfl, ?_⟩
 have hH4 := hX3.of_all
 refine za (ze (v := (S blankS)) rfl ?_)
 refine zf ?_
 refine zc (hK2 _ _ ?_)
 refine wp_ret ?_
 refine zq Tryz.results87  (v := (S blankS)) rfl ?_
 exact ⟨rfl, hH4⟩
set_option maxHeartbeats 4000000 in
theorem filled_c {E w : World} {R : List Hp} (hH : Has E w [R]) {v : Value} {l : List Bs} (hv : Sl R 1 v l.length (l.map sV)) (hn : l.length ≤ 1000000) (hl : l.flatten.length ≤ 1000000000) :
  Calls Tryz.prog 92 #[v] w fun e w' => e = .returned (.tuple #[S (if l.flatten.length ≤ 64 then fillS l.flatten else []), .bool (decide (l.flatten.length ≤ 64))]) ∧ Has E w' [R] := by
 have hn_ := hv.le
 have hb64 := blank_len
 refine zs (args := [v]) Tryz.func92 rfl Tryz.ntmps92 (by simp) ?_
 refine wp_seq_k fun K1 hK1 => ?_
 refine zb ?_
 refine za (ze (v := (S ([] : List UInt8))) rfl ?_)
 refine za (ze (v := (.bool false)) rfl ?_)
 refine zf ?_
 refine zc (hK1 _ _ ?_)
 refine wp_seq_k fun K2 hK2 => ?_
 refine zb ?_
 refine za (zd (v := v) rfl ?_)
 refine za (zk (vs := #[v, (S ([] : List UInt8))]) ca118 rfl (zI rfl rfl) (join_c hH.all (l := l) (hv.mono (zh 0 rfl)) (by omega) (by omega)) ?_)
 rintro _ w5 ⟨rfl, hX3⟩
 refine ⟨_, rfl, ?_⟩
 have hH4 := hX3.of_all
 refine za (ze (v := (S l.flatten)) rfl ?_)
 refine zf ?_
 refine zc (hK2 _ _ ?_)
 refine wp_seq_k fun K6 hK6 => ?_
 refine wp_seq_k fun K7 hK7 => ?_
 refine zb ?_
 refine za (zd (v := (S l.flatten)) rfl ?_)
 refine za (yb Tryz.underlying9 rfl ?_)
 refine za (o_gtr (a := (l.flatten.length : Int)) (b := 64) rfl rfl ?_)
 refine zf ?_
 refine zc (hK7 _ _ ?_)
 refine zt rfl (fun h8 => ?_) (fun h8 => ?_)
 ·
  refine wp_seq_k fun K9 hK9 => ?_
  refine zb ?_
  refine za (ze (v := (S ([] : List UInt8))) rfl ?_)
  refine za (ze (v := (.bool false)) rfl ?_)
  refine zf ?_
  refine zc (hK9 _ _ ?_)
  refine wp_ret ?_
  refine zv (zV Tryz.results92  (v := (S ([] : List UInt8))) rfl (x := (.bool false)) rfl ?_)
  exact ⟨by rw [if_neg (by omega), decide_eq_false (by omega)], hH4⟩
 ·
  refine wp_skip ?_
  refine zc (hK6 _ _ ?_)
  refine wp_seq_k fun K10 hK10 => ?_
  refine zb ?_
  refine za (zd (v := (S l.flatten)) rfl ?_)
  refine za (zk (vs := #[]) ca87 rfl (args0) (blank_c hH4.all) ?_)
  rintro _ w13 ⟨rfl, hX11⟩
  refine ⟨_, rfl, ?_⟩
  have hH12 := hX11.of_all
  refine za (zd (v := (S l.flatten)) rfl ?_)
  refine za (yb Tryz.underlying9 rfl ?_)
  refine za (o_ssl_l Tryz.underlying9 rfl rfl (by omega) (by first | omega | (rw [blank_len]; omega)) ?_)
  refine za (o_sadd rfl rfl (by rw [List.length_drop, blank_len]; omega) ?_)
  refine za (ze (v := (S (l.flatten ++ (blankS.drop ((l.flatten.length : Int)).toNat)))) rfl ?_)
  refine za (ze (v := (.bool true)) rfl ?_)
  refine zf ?_
  refine zc (hK10 _ _ ?_)
  refine wp_ret ?_
  refine zV Tryz.results92  (v := (S (l.flatten ++ (blankS.drop ((l.flatten.length : Int)).toNat)))) rfl (x := (.bool true)) rfl ?_
  exact ⟨by rw [if_pos (by omega), decide_eq_true (by omega)]; rfl, hH12⟩
end Go.Q
namespace Go.Q
open Go.Proofs
set_option linter.unusedVariables false
set_option maxRecDepth 100000
attribute [local irreducible] wpList OK Code.wp
theorem own_raw {e : TypeId} {n : Nat} {v : Value} {cs : List Value} {hs : List Hp} (h : Own e 1 v n cs hs) (hn : 0 < n) : ∃ b cap cur, v = .slice (some ⟨b, 0, none⟩) n cap ∧ hs = [Hp.one b (.cells cur e (0, 0))] ∧ n ≤ cap ∧ cap ≤ maxLen ∧ cur.size = cap := by
 obtain ⟨_, ⟨_, h, _⟩ | ⟨b, cap, cur, h1, h2, h3, h4, h5, _⟩⟩ := h
 · omega
 · exact ⟨b, cap, cur, h1, h2, h3, h4, by omega⟩
theorem rep_step {c c' : Array Value} {k N : Nat} {x : Value} (hk : 1 ≤ k) (hN : k ≤ N) (hs : N ≤ c.size) (h : c.toList.take k = List.replicate k x) (q : c'.toList = if 0 < min k (N - k) then c.toList.take (0 + k) ++ ((c.toList.drop 0).take (k * 1)).take (min k (N - k) * 1) ++ c.toList.drop (0 + k + min k (N - k) * 1) else c.toList) :
  c'.toList.take (k + min k (N - k)) = List.replicate (k + min k (N - k)) x := by
 by_cases g : 0 < min k (N - k)
 ·
  rw [if_pos g, Nat.zero_add, List.drop_zero, Nat.mul_one, Nat.mul_one, h, List.take_replicate, List.replicate_append_replicate] at q
  rw [q, List.take_append_of_le_length (by rw [List.length_replicate]; omega), List.take_replicate]
  congr 1; omega
 ·
  rw [if_neg g] at q
  have : min k (N - k) = 0 := by omega
  rw [q, this, Nat.add_zero]; exact h
theorem rep_step2 {c c' : Array Value} {k N o n so m : Nat} {x : Value} (hk : 1 ≤ k) (hN : k ≤ N) (hs : N ≤ c.size) (h : c.toList.take k = List.replicate k x)
  (q : c'.toList = if 0 < min m n then c.toList.take o ++ ((c.toList.drop so).take (m * 1)).take (min m n * 1) ++ c.toList.drop (o + min m n * 1) else c.toList) (hn : n = N - k) (hm : m = k) (hso : so = 0) (ho : 0 < n → o = k) :
  c'.toList.take (k + min k (N - k)) = List.replicate (k + min k (N - k)) x := by
 subst hn hm hso
 refine rep_step hk hN hs h ?_
 rw [q]
 by_cases g : 0 < min m (N - m)
 · rw [if_pos g, if_pos g, ho (by omega), Nat.zero_add]
 · rw [if_neg g, if_neg g]
theorem rep_one {c : Array Value} {k so m : Nat} {x u : Value} (h : c.toList.take k = List.replicate k x) (hu : u ∈ (c.toList.drop so).take (m * 1)) (hso : so = 0) (hm : m = k) (hx : x.oneCell' = true) : u.oneCell' = true := by
 subst hso hm
 rw [List.drop_zero, Nat.mul_one, h] at hu
 rw [(List.mem_replicate.1 hu).2]; exact hx
set_option maxHeartbeats 4000000 in
theorem srepeat_c {E w : World} {R : List Hp} (hH : Has E w [R]) {v : Value} {s : Bs} (hv : Sl R 1 v 1 ([s].map sV)) {n : Nat} (hn : 0 < n ∧ n ≤ 1000000) :
  Calls Tryz.prog 86 #[v, (.int .i64 (n : Int))] w fun e w' => ∃ v' hs', e = .returned v' ∧ Own 9 1 v' (List.replicate n s).length ((List.replicate n s).map sV) hs' ∧ Has E w' [hs', R] := by
 refine zs (args := [v, (.int .i64 (n : Int))]) Tryz.func86 rfl Tryz.ntmps86 (by simp) ?_
 refine wp_seq_k fun K1 hK1 => ?_
 refine zb ?_
 refine za (ze (v := (.slice none 0 0)) rfl ?_)
 refine zf ?_
 refine zc (hK1 _ _ ?_)
 refine wp_seq_k fun K2 hK2 => ?_
 refine wp_seq_k fun K3 hK3 => ?_
 refine zb ?_
 refine za (zd (v := (.int .i64 (n : Int))) rfl ?_)
 refine za (zL (a := (n : Int)) (b := 0) rfl rfl ?_)
 refine zf ?_
 refine zc (hK3 _ _ ?_)
 refine zt rfl (fun h4 => ?_) (fun h4 => ?_)
 ·
  exfalso; omega
 ·
  refine wp_skip ?_
  refine zc (hK2 _ _ ?_)
  refine wp_seq_k fun K5 hK5 => ?_
  refine zb ?_
  refine za (zd (v := v) rfl ?_)
  refine za (zY Tryz.underlying46 rfl hv ?_)
  refine za (ya (c := ((1 : Nat) : Int)) Tryz.underlying3 Tryz.underlying65 rfl (wu64 (by omega) (by omega)) ?_)
  refine za (zd (v := (.int .i64 (n : Int))) rfl ?_)
  refine za (ya (c := (n : Int)) Tryz.underlying3 Tryz.underlying65 rfl (wu64 (by omega) (by omega)) ?_)
  refine za (zk (vs := #[(.int .u64 ((1 : Nat) : Int)), (.int .u64 (n : Int))]) ca173 rfl (zI rfl rfl) (mul_c hH.all 1 n (by omega) (by omega) (by omega)) ?_)
  rintro _ w8 ⟨rfl, hX6⟩
  refine ⟨_, rfl, ?_⟩
  have hH7 := hX6.of_all
  refine za (zd (v := (.tuple #[(.int .u64 (0 : Int)), (.int .u64 ((1 * n : Nat) : Int))])) rfl ?_)
  refine za (zp (v := (.int .u64 (0 : Int))) rfl rfl ?_)
  refine za (zp (v := (.int .u64 ((1 * n : Nat) : Int))) rfl rfl ?_)
  refine za (ze (v := (.int .u64 (0 : Int))) rfl ?_)
  refine za (ze (v := (.int .u64 ((1 * n : Nat) : Int))) rfl ?_)
  refine zf ?_
  refine zc (hK5 _ _ ?_)
  refine wp_seq_k fun K9 hK9 => ?_
  refine wp_seq_k fun K10 hK10 => ?_
  refine zb ?_
  refine za (zd (v := (.int .u64 (0 : Int))) rfl ?_)
  refine za (o_gtr (a := (0 : Int)) (b := 0) rfl rfl ?_)
  refine za (zd (v := (.bool (decide (0 < (0 : Int))))) rfl ?_)
  by_cases h11 : 0 < (0 : Int)
  ·
   exfalso; omega
  ·
   refine zn 23 rfl (cF h11) (zd (v := (.int .u64 ((1 * n : Nat) : Int))) rfl ?_)
   refine zn 23 rfl (cF h11) (o_gtr (a := ((1 * n : Nat) : Int)) (b := 9223372036854775807) rfl rfl ?_)
   refine za (zm (u := (.bool (decide (9223372036854775807 < ((1 * n : Nat) : Int))))) ((rfl : _ = _).trans (cF h11)) rfl ?_)
   refine zf ?_
   refine zc (hK10 _ _ ?_)
   refine zt rfl (fun h12 => ?_) (fun h12 => ?_)
   ·
    exfalso; omega
   ·
    refine wp_skip ?_
    refine zc (hK9 _ _ ?_)
    refine wp_seq_k fun K13 hK13 => ?_
    refine zb ?_
    refine za (zd (v := (.int .u64 ((1 * n : Nat) : Int))) rfl ?_)
    refine za (ya (c := ((1 * n : Nat) : Int)) Tryz.underlying65 Tryz.underlying3 rfl (w64 (by omega) (by omega)) ?_)
    refine za (o_make Tryz.underlying46 ti9 rfl rfl (by omega) (by omega) (by omega) (by omega) hH7 fun v14 s15 w17 ho16 hH18 => ?_)
    rw [show (((1 * n : Nat) : Int)).toNat = n from by omega] at ho16
    obtain ⟨nb, ncp, nc, rfl, rfl, hnc1, hnc2, hnc3⟩ := own_raw ho16 hn.1
    simp only [maxLen] at hnc2
    refine za (ze (v := (.slice (some ⟨nb, 0, none⟩) n ncp)) rfl ?_)
    refine zf ?_
    refine zc (hK13 _ _ ?_)
    refine wp_seq_k fun K19 hK19 => ?_
    refine zb ?_
    refine za (zd (v := (.slice (some ⟨nb, 0, none⟩) n ncp)) rfl ?_)
    refine za (zd (v := v) rfl ?_)
    refine za (o_copy (ds := ([s].map sV)) Tryz.underlying46 ti9 rfl rfl hv hH18 (zh 1 rfl) (by omega) (by intro u hu; first | (have := List.mem_of_mem_take hu; simp at this; rw [this]; rfl) | exact rep_one hcc (List.mem_of_mem_take hu) (by omega) (by omega) rfl) fun c20 w21 hz24 hc22 hH23 => ?_)
    refine za (ze (v := (.int .i64 ((min 1 n : Nat) : Int))) rfl ?_)
    refine zf ?_
    refine zc (hK19 _ _ ?_)
    refine wp_seq_k fun K25 hK25 => ?_
    refine wp_block ?_
    have hm1 : min 1 n = 1 := by omega
    rw [hm1] at hc22
    let I27 : Nat → (Nat → Value) → World → Prop := fun n__ r__ w__ => ∃ (k : Nat) (cc : Array Value), n__ = n - k ∧ Has E w__ [[Hp.one nb (.cells cc 9 (0, 0))], R] ∧ (1 ≤ k ∧ k ≤ n) ∧ (cc.size = ncp) ∧ (cc.toList.take k = List.replicate k (S s)) ∧ r__ 0 = v ∧ r__ 1 = (.int .i64 (n : Int)) ∧ r__ 4 = (.slice none 0 0) ∧ r__ 5 = (.int .u64 (0 : Int)) ∧ r__ 6 = (.int .u64 ((1 * n : Nat) : Int)) ∧ r__ 7 = (.slice (some ⟨nb, 0, none⟩) n ncp) ∧ r__ 8 = (.int .i64 (k : Int)) ∧ r__ 10 = (.bool (decide ((n : Int) < 0))) ∧ r__ 26 = (.bool (decide (9223372036854775807 < ((1 * n : Nat) : Int))))
    refine zT I27 _ ⟨1, c20, rfl, hH23, (by omega), (by omega), (by rw [hc22]; rfl), rfl, rfl, rfl, rfl, rfl, rfl, (by show Value.int .i64 ((min 1 n : Nat) : Int) = _; rw [hm1]), rfl, rfl⟩ ?_
    rintro n_ r30 w28 ⟨k, cc, rfl, hH29, hk, hcs, hcc, e26_0, e26_1, e26_4, e26_5, e26_6, e26_7, e26_8, e26_10, e26_26⟩
    refine wp_seq_k fun K31 hK31 => ?_
    refine wp_seq_k fun K32 hK32 => ?_
    refine zb ?_
    refine za (zd (v := (.int .i64 (k : Int))) e26_8 ?_)
    refine za (zd (v := (.slice (some ⟨nb, 0, none⟩) n ncp)) e26_7 ?_)
    refine za (o_len Tryz.underlying46 rfl ?_)
    refine za (zL (a := (k : Int)) (b := (n : Int)) rfl rfl ?_)
    refine zf ?_
    refine zc (hK32 _ _ ?_)
    refine zt rfl (fun h33 => ?_) (fun h33 => ?_)
    ·
     refine wp_skip ?_
     refine zc (hK31 _ _ ?_)
     refine wp_block ?_
     refine Rest.region mixed (by kernel_rfl) ?_
     have hH34 : Has E { w28 with drawn := w28.drawn + 1 } [[Hp.one nb (.cells cc 9 (0, 0))], R] := Has0.drew hH29 _
     refine Rest.phaseA (fun w_ => Has E w_ []) 0 8 8 rfl (by decide) (by kernel_rfl) ?_
     refine zr 0 rfl (by kernel_rfl) (fun w_ h_ => zd (v := (.int .i64 (k : Int))) e26_8 ⟨rfl, rfl⟩) ?_
     refine zr 1 rfl (by kernel_rfl) (fun w_ h_ => zd (v := (.slice (some ⟨nb, 0, none⟩) n ncp)) e26_7 ⟨rfl, rfl⟩) ?_
     refine zr 2 rfl (by kernel_rfl) (fun w_ h_ => zd (v := (.int .i64 (k : Int))) e26_8 ⟨rfl, rfl⟩) ?_
     refine zr 4 rfl (by kernel_rfl) (fun w_ h_ => zd (v := (.slice (some ⟨nb, 0, none⟩) n ncp)) e26_7 ⟨rfl, rfl⟩) ?_
     refine zr 5 rfl (by kernel_rfl) (fun w_ h_ => zd (v := (.int .i64 (k : Int))) e26_8 ⟨rfl, rfl⟩) ?_
     have hH35 : Has E { w28 with drawn := w28.drawn + 1 } [] := hH34.first 0 rfl
     refine a_two 3 6 (by kernel_rfl) hH35 ?_ ?_
     ·
      have hH36 : Has E { w28 with drawn := w28.drawn + 1 } [] := hH34.first 0 rfl
      obtain ⟨o37, n38, c39, ho43, hn40, hc41, hq42⟩ := rsl_ex 0 1 (i := (k : Int)) (j := ((n : Nat) : Int)) (m := ((ncp : Nat) : Int)) (by omega) (by omega) (by omega)
      refine ok_w 3 rfl (o_rsl2 (i := (k : Int)) (j := ((n : Nat) : Int)) (m := ((ncp : Nat) : Int)) Tryz.underlying46 ti9 rfl (bounds_l (n := n) (cap := ncp) (i := (k : Int)) (by omega) (by omega)) (by omega) (by omega) (by omega) ho43 hn40 hc41 ?_)
      have hH44 : Has E { w28 with drawn := w28.drawn + 1 } [] := hH34.first 0 rfl
      obtain ⟨o45, n46, c47, ho51, hn48, hc49, hq50⟩ := rsl_ex 0 1 (i := 0) (j := (k : Int)) (m := ((ncp : Nat) : Int)) (by omega) (by omega) (by omega)
      refine a_w 6 rfl (by kernel_rfl) hH44 (o_rsl2 (i := 0) (j := (k : Int)) (m := ((ncp : Nat) : Int)) Tryz.underlying46 ti9 rfl (bounds_h (n := n) (cap := ncp) (j := (k : Int)) (by omega) (by omega)) (by omega) (by omega) (by omega) ho51 hn48 hc49 ?_)
      have hH52 : Has E { w28 with drawn := w28.drawn + 1 } [] := hH34.first 0 rfl
      refine a_w 7 rfl (by kernel_rfl) hH52 (o_copy (ds := (cc.toList.drop o45).take (n46 * 1)) Tryz.underlying46 ti9 rfl rfl (sl_raw (b := nb) (o := o45) (sz := 1) (n := n46) (cap := c47) (c := cc) (e := 9) (g := (0, 0)) (by omega) (by omega) (by omega)) hH34 sub_l (by omega) (by intro u hu; first | (have := List.mem_of_mem_take hu; simp at this; rw [this]; rfl) | exact rep_one hcc (List.mem_of_mem_take hu) (by omega) (by omega) rfl) fun c53 w54 hz57 hc55 hH56 => ?_)
      have hH58 : Has E w54 [] := hH56.first 0 rfl
      refine zQ (by kernel_rfl) hH58 ?_
      refine zP 8 rfl (by kernel_rfl) (zH (a := (k : Int)) (b := ((min n46 n38 : Nat) : Int)) rfl rfl (w64 (by omega) (by omega)) ?_)
      refine zP 9 rfl (by kernel_rfl) (ze (v := (.int .i64 ((k : Int) + ((min n46 n38 : Nat) : Int)))) rfl ?_)
      refine Rest.done (by kernel_rfl) ?_
      refine zG ?_
      have rstep := rep_step2 hk.1 hk.2 (by omega) hcc hc55 (by omega) (by omega) (by omega) (by omega)
      refine zc ⟨n - (k + min k (n - k)), _, rfl, ?_, ?_⟩
      · omega
      · exact ⟨(k + min k (n - k)), c53, rfl, hH56, (by omega), (by rw [hz57]; exact hcs), (rstep), e26_0, e26_1, e26_4, e26_5, e26_6, e26_7, (show ((.int .i64 ((k : Int) + ((min n46 n38 : Nat) : Int))) : Value) = _ from by congr 1; omega), e26_10, e26_26⟩
     ·
      have hH59 : Has E { w28 with drawn := w28.drawn + 1 } [] := hH34.first 0 rfl
      obtain ⟨o60, n61, c62, ho66, hn63, hc64, hq65⟩ := rsl_ex 0 1 (i := 0) (j := (k : Int)) (m := ((ncp : Nat) : Int)) (by omega) (by omega) (by omega)
      refine ok_w 6 rfl (o_rsl2 (i := 0) (j := (k : Int)) (m := ((ncp : Nat) : Int)) Tryz.underlying46 ti9 rfl (bounds_h (n := n) (cap := ncp) (j := (k : Int)) (by omega) (by omega)) (by omega) (by omega) (by omega) ho66 hn63 hc64 ?_)
      have hH67 : Has E { w28 with drawn := w28.drawn + 1 } [] := hH34.first 0 rfl
      obtain ⟨o68, n69, c70, ho74, hn71, hc72, hq73⟩ := rsl_ex 0 1 (i := (k : Int)) (j := ((n : Nat) : Int)) (m := ((ncp : Nat) : Int)) (by omega) (by omega) (by omega)
      refine a_w 3 rfl (by kernel_rfl) hH67 (o_rsl2 (i := (k : Int)) (j := ((n : Nat) : Int)) (m := ((ncp : Nat) : Int)) Tryz.underlying46 ti9 rfl (bounds_l (n := n) (cap := ncp) (i := (k : Int)) (by omega) (by omega)) (by omega) (by omega) (by omega) ho74 hn71 hc72 ?_)
      have hH75 : Has E { w28 with drawn := w28.drawn + 1 } [] := hH34.first 0 rfl
      refine a_w 7 rfl (by kernel_rfl) hH75 (o_copy (ds := (cc.toList.drop o60).take (n61 * 1)) Tryz.underlying46 ti9 rfl rfl (sl_raw (b := nb) (o := o60) (sz := 1) (n := n61) (cap := c62) (c := cc) (e := 9) (g := (0, 0)) (by omega) (by omega) (by omega)) hH34 sub_l (by omega) (by intro u hu; first | (have := List.mem_of_mem_take hu; simp at this; rw [this]; rfl) | exact rep_one hcc (List.mem_of_mem_take hu) (by omega) (by omega) rfl) fun c76 w77 hz80 hc78 hH79 => ?_)
      have hH81 : Has E w77 [] := hH79.first 0 rfl
      refine zQ (by kernel_rfl) hH81 ?_
      refine zP 8 rfl (by kernel_rfl) (zH (a := (k : Int)) (b := ((min n61 n69 : Nat) : Int)) rfl rfl (w64 (by omega) (by omega)) ?_)
      refine zP 9 rfl (by kernel_rfl) (ze (v := (.int .i64 ((k : Int) + ((min n61 n69 : Nat) : Int)))) rfl ?_)
      refine Rest.done (by kernel_rfl) ?_
      refine zG ?_
      have rstep := rep_step2 hk.1 hk.2 (by omega) hcc hc78 (by omega) (by omega) (by omega) (by omega)
      refine zc ⟨n - (k + min k (n - k)), _, rfl, ?_, ?_⟩
      · omega
      · exact ⟨(k + min k (n - k)), c76, rfl, hH79, (by omega), (by rw [hz80]; exact hcs), (rstep), e26_0, e26_1, e26_4, e26_5, e26_6, e26_7, (show ((.int .i64 ((k : Int) + ((min n61 n69 : Nat) : Int))) : Value) = _ from by congr 1; omega), e26_10, e26_26⟩
    ·
     refine wp_exit ?_
     refine zx (zx (x_in (?_)))
     refine zc (hK25 _ _ ?_)
     refine wp_seq_k fun K82 hK82 => ?_
     refine zb ?_
     refine za (zd (v := (.slice (some ⟨nb, 0, none⟩) n ncp)) e26_7 ?_)
     refine za (ze (v := (.slice (some ⟨nb, 0, none⟩) n ncp)) rfl ?_)
     refine zf ?_
     refine zc (hK82 _ _ ?_)
     refine wp_ret ?_
     refine zq Tryz.results86  (v := (.slice (some ⟨nb, 0, none⟩) n ncp)) rfl ?_
     have e_ : k = n := by omega
     subst e_
     exact ⟨_, _, rfl, ⟨by simp, .inr ⟨nb, ncp, cc, by rw [List.length_replicate], rfl, by rw [List.length_replicate]; omega, by simp only [maxLen]; omega, by omega, by rw [List.length_replicate, Nat.mul_one, hcc, List.map_replicate]; rfl⟩⟩, hH29⟩
end Go.Q
namespace Go.Q
open Go.Proofs Go.Shelf
def kyl_ren : Go.Shelf.Ren := ⟨fun | 7 => 203 | 10 => 281 | n => n, fun | 23 => 148 | 26 => 3 | 3 => 9 | 28 => 282 | 0 => 0 | 27 => 281 | 33 => 156 | 4 => 4 | n => n, fun | n => n⟩
theorem kyl : Go.Proofs.SlLaysZI.n7 Tryz.prog kyl_ren := {
 mixed := by kernel_rfl
 f7 := ⟨Tryz.f203.name, by decide, Tryz.func203.trans (congrArg some (by kernel_rfl))⟩
 f10 := ⟨Tryz.f281.name, by decide, Tryz.func281.trans (congrArg some (by kernel_rfl))⟩
 t0 := Tryz.underlying0
 a0 := Tryz.isAgg0
 z0 := Tryz.sizeOf0
 v0 := Tryz.zeroValue0
 t4 := Tryz.underlying4
 a4 := Tryz.isAgg4
 z4 := Tryz.sizeOf4
 v4 := Tryz.zeroValue4
 t23 := Tryz.underlying148
 a23 := Tryz.isAgg148
 z23 := Tryz.sizeOf148
 v23 := Tryz.zeroValue148
 t26 := Tryz.underlying3
 a26 := Tryz.isAgg3
 z26 := Tryz.sizeOf3
 v26 := Tryz.zeroValue3
 t27 := Tryz.underlying281
 a27 := Tryz.isAgg281
 z27 := Tryz.sizeOf281
 v27 := Tryz.zeroValue281
 t28 := Tryz.underlying282
 a28 := Tryz.isAgg282
 z28 := Tryz.sizeOf282
 v28 := Tryz.zeroValue282
 t33 := Tryz.underlying156
 a33 := Tryz.isAgg156
 z33 := Tryz.sizeOf156
 v33 := Tryz.zeroValue156 }
def stl_ren : Go.Shelf.Ren := ⟨fun | 6 => 202 | 8 => 279 | 9 => 280 | 11 => 334 | 13 => 294 | 12 => 335 | 23 => 346 | 24 => 347 | 14 => 369 | 15 => 370 | 16 => 371 | 17 => 372 | 18 => 373 | 19 => 374 | 20 => 375 | 21 => 376 | 22 => 377 | 25 => 396 | 26 => 381 | 27 => 382 | 28 => 397 | 29 => 398 | 30 => 217 | 31 => 405 | n => n, fun | 26 => 3 | 28 => 282 | 24 => 47 | 0 => 0 | 3 => 3 | 37 => 65 | 48 => 349 | 50 => 352 | 4 => 4 | 40 => 429 | 39 => 428 | 45 => 240 | 5 => 5 | 9 => 9 | 51 => 462 | 55 => 367 | 57 => 488 | 58 => 489 | 33 => 156 | n => n, fun | n => n⟩
theorem stl : Go.Proofs.SlLaysZI.n6 Tryz.prog stl_ren := {
 mixed := by kernel_rfl
 f6 := ⟨Tryz.f202.name, by decide, Tryz.func202.trans (congrArg some (by kernel_rfl))⟩
 f8 := ⟨Tryz.f279.name, by decide, Tryz.func279.trans (congrArg some (by kernel_rfl))⟩
 f11 := ⟨Tryz.f334.name, by decide, Tryz.func334.trans (congrArg some (by kernel_rfl))⟩
 t0 := Tryz.underlying0
 a0 := Tryz.isAgg0
 z0 := Tryz.sizeOf0
 v0 := Tryz.zeroValue0
 t24 := Tryz.underlying47
 a24 := Tryz.isAgg47
 z24 := Tryz.sizeOf47
 v24 := Tryz.zeroValue47
 t26 := Tryz.underlying3
 a26 := Tryz.isAgg3
 z26 := Tryz.sizeOf3
 v26 := Tryz.zeroValue3
 t28 := Tryz.underlying282
 a28 := Tryz.isAgg282
 z28 := Tryz.sizeOf282
 v28 := Tryz.zeroValue282
 i26 := by kernel_rfl }
def srl_ren : Go.Shelf.Ren := ⟨fun | 5 => 280 | 8 => 294 | 7 => 335 | 19 => 346 | 20 => 347 | 10 => 369 | 11 => 370 | 12 => 371 | 13 => 372 | 14 => 373 | 15 => 374 | 16 => 375 | 17 => 376 | 18 => 377 | 30 => 396 | 31 => 381 | 32 => 382 | 33 => 397 | 34 => 398 | 35 => 217 | 40 => 405 | n => n, fun | 23 => 47 | 25 => 3 | 3 => 3 | 32 => 65 | 22 => 47 | 0 => 0 | 44 => 349 | 46 => 352 | 4 => 4 | 36 => 429 | 35 => 428 | 41 => 240 | 5 => 5 | 9 => 9 | 53 => 462 | 57 => 367 | 63 => 488 | 64 => 489 | n => n, fun | n => n⟩
theorem srl : Go.Proofs.SlLaysM.n5 Tryz.prog srl_ren := {
 mixed := by kernel_rfl
 f5 := ⟨Tryz.f280.name, by decide, Tryz.func280.trans (congrArg some (by kernel_rfl))⟩
 f7 := ⟨Tryz.f335.name, by decide, Tryz.func335.trans (congrArg some (by kernel_rfl))⟩
 f8 := Tryz.func294.trans (congrArg some (by kernel_rfl))
 f10 := ⟨Tryz.f369.name, by decide, Tryz.func369.trans (congrArg some (by kernel_rfl))⟩
 f11 := ⟨Tryz.f370.name, by decide, Tryz.func370.trans (congrArg some (by kernel_rfl))⟩
 f12 := ⟨Tryz.f371.name, by decide, Tryz.func371.trans (congrArg some (by kernel_rfl))⟩
 f13 := ⟨Tryz.f372.name, by decide, Tryz.func372.trans (congrArg some (by kernel_rfl))⟩
 f14 := ⟨Tryz.f373.name, by decide, Tryz.func373.trans (congrArg some (by kernel_rfl))⟩
 f15 := ⟨Tryz.f374.name, by decide, Tryz.func374.trans (congrArg some (by kernel_rfl))⟩
 f16 := ⟨Tryz.f375.name, by decide, Tryz.func375.trans (congrArg some (by kernel_rfl))⟩
 f17 := ⟨Tryz.f376.name, by decide, Tryz.func376.trans (congrArg some (by kernel_rfl))⟩
 f18 := ⟨Tryz.f377.name, by decide, Tryz.func377.trans (congrArg some (by kernel_rfl))⟩
 f19 := Tryz.func346.trans (congrArg some (by kernel_rfl))
 f20 := Tryz.func347.trans (congrArg some (by kernel_rfl))
 f30 := ⟨Tryz.f396.name, by decide, Tryz.func396.trans (congrArg some (by kernel_rfl))⟩
 f31 := Tryz.func381.trans (congrArg some (by kernel_rfl))
 f32 := Tryz.func382.trans (congrArg some (by kernel_rfl))
 f33 := ⟨Tryz.f397.name, by decide, Tryz.func397.trans (congrArg some (by kernel_rfl))⟩
 f34 := ⟨Tryz.f398.name, by decide, Tryz.func398.trans (congrArg some (by kernel_rfl))⟩
 f35 := ⟨Tryz.f217.name, by decide, Tryz.func217.trans (congrArg some (by kernel_rfl))⟩
 f40 := ⟨Tryz.f405.name, by decide, Tryz.func405.trans (congrArg some (by kernel_rfl))⟩
 t0 := Tryz.underlying0
 a0 := Tryz.isAgg0
 z0 := Tryz.sizeOf0
 v0 := Tryz.zeroValue0
 t3 := Tryz.underlying3
 a3 := Tryz.isAgg3
 z3 := Tryz.sizeOf3
 v3 := Tryz.zeroValue3
 t4 := Tryz.underlying4
 a4 := Tryz.isAgg4
 z4 := Tryz.sizeOf4
 v4 := Tryz.zeroValue4
 t5 := Tryz.underlying5
 a5 := Tryz.isAgg5
 z5 := Tryz.sizeOf5
 v5 := Tryz.zeroValue5
 t9 := Tryz.underlying9
 a9 := Tryz.isAgg9
 z9 := Tryz.sizeOf9
 v9 := Tryz.zeroValue9
 t22 := Tryz.underlying47
 a22 := Tryz.isAgg47
 z22 := Tryz.sizeOf47
 v22 := Tryz.zeroValue47
 t23 := Tryz.underlying47
 a23 := Tryz.isAgg47
 z23 := Tryz.sizeOf47
 v23 := Tryz.zeroValue47
 t25 := Tryz.underlying3
 a25 := Tryz.isAgg3
 z25 := Tryz.sizeOf3
 v25 := Tryz.zeroValue3
 t32 := Tryz.underlying65
 a32 := Tryz.isAgg65
 z32 := Tryz.sizeOf65
 v32 := Tryz.zeroValue65
 t35 := Tryz.underlying428
 a35 := Tryz.isAgg428
 z35 := Tryz.sizeOf428
 v35 := Tryz.zeroValue428
 t36 := Tryz.underlying429
 a36 := Tryz.isAgg429
 z36 := Tryz.sizeOf429
 v36 := Tryz.zeroValue429
 t41 := Tryz.underlying240
 a41 := Tryz.isAgg240
 z41 := Tryz.sizeOf240
 v41 := Tryz.zeroValue240
 t44 := Tryz.underlying349
 a44 := Tryz.isAgg349
 z44 := Tryz.sizeOf349
 v44 := Tryz.zeroValue349
 t46 := Tryz.underlying352
 a46 := Tryz.isAgg352
 z46 := Tryz.sizeOf352
 v46 := Tryz.zeroValue352
 t53 := Tryz.underlying462
 a53 := Tryz.isAgg462
 z53 := Tryz.sizeOf462
 v53 := Tryz.zeroValue462
 t57 := Tryz.underlying367
 a57 := Tryz.isAgg367
 z57 := Tryz.sizeOf367
 v57 := Tryz.zeroValue367
 t63 := Tryz.underlying488
 a63 := Tryz.isAgg488
 z63 := Tryz.sizeOf488
 v63 := Tryz.zeroValue488
 t64 := Tryz.underlying489
 a64 := Tryz.isAgg489
 z64 := Tryz.sizeOf489
 v64 := Tryz.zeroValue489 }
theorem srl_in (m : Nat) : AnyZI.SortsIn Tryz.prog stl_ren Fence.wide m :=
 ⟨fun blk off cap ss W hH hblk hsz => callsIn_wide.2 (AnyM.slices_Sort_int srl blk off cap ss W hH hblk hsz),
  fun p cap W => callsIn_wide.2 (AnyM.slices_Sort_int_none srl p cap W)⟩
theorem Has.row {E w w' : World} {ss : List (List Hp)} (H : Has E w ss) (hb : Go.RowKit.Below w.heap.size w w') {e : TypeId} {sz n : Nat} {v : Value} {cs : List Value} (hr : w'.ownsRow w.heap.size e sz v n cs) : ∃ hs, Own e sz v n cs hs ∧ Has E w' (hs :: ss) := by
 have H' := H.of_below hb
 obtain ⟨hl, ⟨rfl, h0⟩ | ⟨k, cap, cur, rfl, hk, hbk, h1, h2, h3, h4⟩⟩ := hr
 · exact ⟨[], ⟨hl, .inl ⟨rfl, h0, rfl⟩⟩, Has.nil H'⟩
 ·
  refine ⟨[Hp.one k (.cells cur e (0, 0))], ⟨hl, .inr ⟨k, cap, cur, rfl, rfl, h1, h2, h3, h4⟩⟩, ?_⟩
  refine ⟨H'.os, H'.tape, H'.output, ?_, ?_⟩
  ·
   refine List.pairwise_cons.2 ⟨fun h hh j => ?_, H'.dj⟩
   cases hj : h j with
   | none => exact .inr rfl
   | some o =>
    refine .inl ?_
    have := (Array.getElem?_eq_some_iff.1 (Has0.sub H h hh j o hj)).1
    unfold Hp.one; rw [if_neg (by omega)]
  ·
   intro h hh
   rcases List.mem_cons.1 hh with rfl | hh
   ·
    intro j o hj
    obtain ⟨rfl, rfl⟩ := Hp.one_some hj
    exact hbk
   · exact Has0.sub H' h hh
theorem mkeys_c {E w : World} {ss : List Hp} (H : Has E w [ss]) (mb : Nat) : Calls Tryz.prog 203 #[.map (some mb)] w fun e w' => ∃ b, e = .returned (.func (.func 281) #[] #[.pointer (some ⟨b, 0, none⟩)]) ∧ Has E w' [[Hp.one b (.cells #[.map (some mb)] 148 (0, 0))], ss] := by
 refine (callsIn_wide.1 (AnyZI.keys_in kyl Fence.wide 5 trivial rfl (some mb) w)).mono fun e w' ⟨he, hw⟩ => ⟨w.heap.size, he, ?_⟩
 rw [hw]
 exact H.alloc _
set_option maxRecDepth 100000 in
theorem MapV.owns {f : Bs → Value} {es : Array MapEntry} {c : Nat} {lo : List (Int × Bs)} (h : MapV iV f es c lo) {w : World} {b : Nat} (hb : w.heap[b]? = some (.map es c)) {k : TypeId} (hk : Tryz.prog.underlying k = some (.int .i64))
  (hw : ∀ p ∈ lo, (Lit.int .i64 p.1).wf = true) (hn : lo.length ≤ 1000000) : ∃ D : DataW Nat, w.ownsMap Tryz.prog k (fun _ => some (.lit (.bool true), [])) b lo.length D ∧ Maps.size D = lo.length ∧ (intKeys D).Perm (lo.map (·.1)) := by
 have hkey : ∀ x ∈ es.toList, ∃ p ∈ lo, x.key = .int .i64 p.1 := fun x hx => by
  have : x.key ∈ es.toList.map (·.key) := List.mem_map.2 ⟨x, hx, rfl⟩
  rw [h.keys] at this
  obtain ⟨p, hp, e⟩ := List.mem_map.1 this
  exact ⟨p, hp, e.symm⟩
 have hrd : ∀ x ∈ es.toList, ∃ p ∈ lo, x.key = .int .i64 p.1 ∧ Go.WideElems.rd (H := Nat) Tryz.prog k (fun _ => some (.lit (.bool true), [])) x = some (.int .i64 p.1, .lit (.bool true)) := fun x hx => by
  obtain ⟨p, hp, e⟩ := hkey x hx
  refine ⟨p, hp, e, ?_⟩
  unfold Go.WideElems.rd
  rw [e, Go.Maps.keyOf_int_mk hk (hw p hp)]; rfl
 have hsz := h.size
 refine ⟨.map ((es.toList.map (Go.WideElems.rg Tryz.prog k (fun _ => some (.lit (.bool true), [])))).foldr DataW.insert []), ⟨es, c, hb, ⟨by rw [hsz]; simp only [maxLen]; omega, h.2, fun x hx => by obtain ⟨p, _, _, e⟩ := hrd x hx; exact ⟨_, e⟩⟩, by omega, rfl⟩, ?_, ?_⟩
 ·
  show List.length _ = _
  rw [(Go.WideShapes.sorted_perm _).length_eq, List.length_map]; simpa using hsz
 ·
  show (List.map (fun p : Lit × DataW Nat => intOf p.1) _).Perm _
  refine ((Go.WideShapes.sorted_perm _).map _).trans ?_
  rw [List.map_map]
  have e1 : es.toList.map ((fun p : Lit × DataW Nat => intOf p.1) ∘ Go.WideElems.rg Tryz.prog k (fun _ => some (.lit (.bool true), []))) = es.toList.map (fun x => match x.key with | .int _ a => a | _ => 0) := List.map_congr_left fun x hx => by
   obtain ⟨p, _, e, g⟩ := hrd x hx
   show intOf (Go.WideElems.rg _ _ _ x).1 = _
   unfold Go.WideElems.rg
   rw [g, e]; rfl
  have e2 : es.toList.map (fun x => match x.key with | .int _ a => a | _ => 0) = lo.map (·.1) := by
   have := congrArg (List.map (fun v : Value => match v with | .int _ a => a | _ => (0 : Int))) h.keys
   rw [List.map_map, List.map_map] at this
   exact this
  rw [e1, e2]
theorem skeys_c {E w : World} {R : List Hp} {b mb c : Nat} {es : Array MapEntry} {lo : List (Int × Bs)} {f : Bs → Value} (H : Has E w [[Hp.one b (.cells #[.map (some mb)] 148 (0, 0))], [Hp.one mb (.map es c)], R]) (hm : MapV iV f es c lo)
  (hw : ∀ p ∈ lo, (Lit.int .i64 p.1).wf = true) (hn : lo.length ≤ 1000000) :
  Calls Tryz.prog 202 #[.func (.func 281) #[] #[.pointer (some ⟨b, 0, none⟩)]] w fun e w' => ∃ v hs, e = .returned v ∧ Own 3 1 v (keysS lo).length ((keysS lo).map iV) hs ∧ Has E w' [hs, [Hp.one b (.cells #[.map (some mb)] 148 (0, 0))], [Hp.one mb (.map es c)], R] := by
 have hb1 : w.heap[b]? = some (.cells #[.map (some mb)] 148 (0, 0)) := H.at (h := Hp.one b (.cells #[.map (some mb)] 148 (0, 0))) (by simp) (Hp.one_at _ _)
 have hb2 : w.heap[mb]? = some (.map es c) := H.at (h := Hp.one mb (.map es c)) (by simp) (Hp.one_at _ _)
 obtain ⟨D, hown, hsz, hperm⟩ := hm.owns hb2 (k := 3) Tryz.underlying3 hw hn
 have hlt : b < w.heap.size := (Array.getElem?_eq_some_iff.1 hb1).1
 have hseq : SeqGives Fence.wide 2 Tryz.prog 281 #[.pointer (some ⟨b, 0, none⟩)] encZ (fun ss => ss.Perm (intKeys D)) (Maps.size D) w :=
  AnyZI.keys_gives (ρ := kyl_ren) { kyl with } Fence.wide _ trivial rfl (by omega) b mb lo.length D w hlt (by simp [World.cell?, hb1]) hown
 have hs := AnyZI.sorted_in stl Fence.wide 5 trivial trivial trivial trivial rfl (by omega) (srl_in _) (enters_of Tryz.func280 (by kernel_rfl) rfl) 281 #[.pointer (some ⟨b, 0, none⟩)] trivial (enters_of Tryz.func281 (by kernel_rfl) rfl) _ (Maps.size D) (by simp only [maxLen]; omega) (by omega) w hseq
 refine (callsIn_wide.1 hs).mono fun e w' ⟨v, ss, he, hp, hrow, _, hbl⟩ => ?_
 obtain ⟨hs', ho, hH⟩ := H.row hbl hrow
 have e1 : ss.mergeSort (fun x y => decide (x ≤ y)) = keysS lo := mergeSort_of_perm_i (hp.trans hperm)
 have hl : ss.length = (keysS lo).length := by rw [← e1, List.length_mergeSort]
 rw [e1, hl] at ho
 exact ⟨v, hs', he, ho, hH⟩
end Go.Q
namespace Go.Q
open Go.Proofs
set_option linter.unusedVariables false
set_option maxRecDepth 100000
attribute [local irreducible] wpList OK Code.wp
theorem wf_of {n : Int} {k : Nat} (h : inS n k) (hk : k ≤ 4096) : (Lit.int .i64 n).wf = true := by
 unfold inS at h
 simp only [Lit.wf, IntKind.min, IntKind.max, IntKind.signed, IntKind.bits, Bool.and_eq_true, decide_eq_true_eq, if_true]
 omega
theorem lo_le {es : Array MapEntry} {c : Nat} {lo : List (Int × Bs)} {k : Nat} (hm : MapV iV sV es c lo) (h : LoOk lo k) (hk : k ≤ 4096) : lo.length ≤ 1000000 := by
 have := nodup_len (lo.map (·.1)) ((List.range k).map Int.ofNat) hm.nodup fun x hx => by
  obtain ⟨p, hp, rfl⟩ := List.mem_map.1 hx
  have := (h p hp).1
  unfold inS at this
  exact List.mem_map.2 ⟨p.1.toNat, List.mem_range.2 (by omega), by show ((p.1.toNat : Nat) : Int) = _; omega⟩
 rw [List.length_map, List.length_map, List.length_range] at this; omega
set_option maxHeartbeats 4000000 in
theorem sectors_i {E w : World} {R hL : List Hp} {pb db mb c : Nat} {p : Pw} {v : Value} {es : Array MapEntry} {la : List Bs} {lo : List (Int × Bs)} (hH : Has E w [hL, [Hp.one mb (.map es c)], [Hp.one db (.cells #[(.pointer (some ⟨pb, 0, none⟩)), v, (.map (some mb))] 150 (0, 0))], [Hp.one pb (.cells #[(.bool p.off), (.bool p.armed), (.int .i64 p.left), (.int .i64 p.uses)] 145 (0, 0))], R]) (ho : Own 9 1 v la.length (la.map sV) hL) (hm : MapV iV sV es c lo) :
  Calls Tryz.prog 85 #[(.pointer (some ⟨db, 0, none⟩))] w fun e w' => e = .returned (.int .i64 ((la.length : Nat) : Int)) ∧ Has E w' [hL, [Hp.one mb (.map es c)], [Hp.one db (.cells #[(.pointer (some ⟨pb, 0, none⟩)), v, (.map (some mb))] 150 (0, 0))], [Hp.one pb (.cells #[(.bool p.off), (.bool p.armed), (.int .i64 p.left), (.int .i64 p.uses)] 145 (0, 0))], R] := by
 refine zs (args := [(.pointer (some ⟨db, 0, none⟩))]) Tryz.func85 rfl Tryz.ntmps85 (by simp) ?_
 refine wp_seq_k fun K1 hK1 => ?_
 refine zb ?_
 refine za (ze (v := (.int .i64 0)) rfl ?_)
 refine zf ?_
 refine zc (hK1 _ _ ?_)
 refine wp_seq_k fun K2 hK2 => ?_
 refine wp_seq_k fun K3 hK3 => ?_
 refine zb ?_
 refine za (zd (v := (.pointer (some ⟨db, 0, none⟩))) rfl ?_)
 refine za (o_pnil (p := some _) Tryz.underlying25 rfl rfl ?_)
 refine zf ?_
 refine zc (hK3 _ _ ?_)
 refine zS rfl rfl ?_
 refine wp_skip ?_
 refine zc (hK2 _ _ ?_)
 refine wp_seq_k fun K4 hK4 => ?_
 refine zb ?_
 refine za (zd (v := (.pointer (some ⟨db, 0, none⟩))) rfl ?_)
 refine za (zl rfl ?_)
 refine za (zg (k := 1) (fun _ => by kernel_rfl) rfl ?_)
 refine za (zj (v := v) Tryz.underlying46 rfl rfl hH (zh 2 rfl) (CellsAt.one rfl) ?_)
 refine za (zY Tryz.underlying46 rfl ho.sl ?_)
 refine za (ze (v := (.int .i64 ((la.length : Nat) : Int))) rfl ?_)
 refine zf ?_
 refine zc (hK4 _ _ ?_)
 refine wp_ret ?_
 refine zq Tryz.results85  (v := (.int .i64 ((la.length : Nat) : Int))) rfl ?_
 exact ⟨rfl, hH⟩
set_option maxHeartbeats 4000000 in
theorem don_i {E w : World} {R hL : List Hp} {pb db mb c : Nat} {p : Pw} {v : Value} {es : Array MapEntry} {la : List Bs} {lo : List (Int × Bs)} (hH : Has E w [hL, [Hp.one mb (.map es c)], [Hp.one db (.cells #[(.pointer (some ⟨pb, 0, none⟩)), v, (.map (some mb))] 150 (0, 0))], [Hp.one pb (.cells #[(.bool p.off), (.bool p.armed), (.int .i64 p.left), (.int .i64 p.uses)] 145 (0, 0))], R]) (ho : Own 9 1 v la.length (la.map sV) hL) (hm : MapV iV sV es c lo) :
  Calls Tryz.prog 186 #[(.pointer (some ⟨db, 0, none⟩))] w fun e w' => e = .returned (.bool (!p.off)) ∧ Has E w' [hL, [Hp.one mb (.map es c)], [Hp.one db (.cells #[(.pointer (some ⟨pb, 0, none⟩)), v, (.map (some mb))] 150 (0, 0))], [Hp.one pb (.cells #[(.bool p.off), (.bool p.armed), (.int .i64 p.left), (.int .i64 p.uses)] 145 (0, 0))], R] := by
 refine zs (args := [(.pointer (some ⟨db, 0, none⟩))]) Tryz.func186 rfl Tryz.ntmps186 (by simp) ?_
 refine wp_seq_k fun K1 hK1 => ?_
 refine zb ?_
 refine za (ze (v := (.bool false)) rfl ?_)
 refine zf ?_
 refine zc (hK1 _ _ ?_)
 refine wp_seq_k fun K2 hK2 => ?_
 refine zb ?_
 refine za (zd (v := (.pointer (some ⟨db, 0, none⟩))) rfl ?_)
 refine za (o_pnnil (p := some _) Tryz.underlying25 rfl rfl ?_)
 refine za (zd (v := (.bool true)) rfl ?_)
 refine zn 5 rfl rfl (zd (v := (.pointer (some ⟨db, 0, none⟩))) rfl ?_)
 refine zn 5 rfl rfl (zl rfl ?_)
 refine zn 5 rfl rfl (zg (k := 0) (fun _ => by kernel_rfl) rfl ?_)
 refine zn 5 rfl rfl (zj (v := (.pointer (some ⟨pb, 0, none⟩))) Tryz.underlying97 rfl rfl hH (zh 2 rfl) (CellsAt.one rfl) ?_)
 refine zn 5 rfl rfl (zk (vs := #[(.pointer (some ⟨pb, 0, none⟩))]) ca165 rfl (zF rfl) (pon_c (p := p) (hH.front 3 rfl).all1) ?_)
 rintro _ w5 ⟨rfl, hX3⟩
 refine ⟨_, rfl, ?_⟩
 have hH4 : Has E w5 [[Hp.one pb (.cells #[(.bool p.off), (.bool p.armed), (.int .i64 p.left), (.int .i64 p.uses)] 145 (0, 0))], hL, [Hp.one mb (.map es c)], [Hp.one db (.cells #[(.pointer (some ⟨pb, 0, none⟩)), v, (.map (some mb))] 150 (0, 0))], R] := hX3.of_all1
 refine za (zo (u := (.bool (!p.off))) rfl rfl ?_)
 refine za (ze (v := (.bool (!p.off))) rfl ?_)
 refine zf ?_
 refine zc (hK2 _ _ ?_)
 refine wp_ret ?_
 refine zq Tryz.results186  (v := (.bool (!p.off))) rfl ?_
 have hH6 : Has E w5 [hL, [Hp.one mb (.map es c)], [Hp.one db (.cells #[(.pointer (some ⟨pb, 0, none⟩)), v, (.map (some mb))] 150 (0, 0))], [Hp.one pb (.cells #[(.bool p.off), (.bool p.armed), (.int .i64 p.left), (.int .i64 p.uses)] 145 (0, 0))], R] := (((((hH4.front 4 rfl).front 1 rfl).front 4 rfl).front 4 rfl).front 4 rfl).first 5 rfl
 exact ⟨rfl, hH6⟩
set_option maxHeartbeats 4000000 in
theorem has_i {E w : World} {R hL : List Hp} {pb db mb c : Nat} {p : Pw} {v : Value} {es : Array MapEntry} {la : List Bs} {lo : List (Int × Bs)} (hH : Has E w [hL, [Hp.one mb (.map es c)], [Hp.one db (.cells #[(.pointer (some ⟨pb, 0, none⟩)), v, (.map (some mb))] 150 (0, 0))], [Hp.one pb (.cells #[(.bool p.off), (.bool p.armed), (.int .i64 p.left), (.int .i64 p.uses)] 145 (0, 0))], R]) (ho : Own 9 1 v la.length (la.map sV) hL) (hm : MapV iV sV es c lo) (n : Int) :
  Calls Tryz.prog 93 #[(.pointer (some ⟨db, 0, none⟩)), (.int .i64 n)] w fun e w' => e = .returned (.bool (decide (inS n la.length))) ∧ Has E w' [hL, [Hp.one mb (.map es c)], [Hp.one db (.cells #[(.pointer (some ⟨pb, 0, none⟩)), v, (.map (some mb))] 150 (0, 0))], [Hp.one pb (.cells #[(.bool p.off), (.bool p.armed), (.int .i64 p.left), (.int .i64 p.uses)] 145 (0, 0))], R] := by
 refine zs (args := [(.pointer (some ⟨db, 0, none⟩)), (.int .i64 n)]) Tryz.func93 rfl Tryz.ntmps93 (by simp) ?_
 refine wp_seq_k fun K1 hK1 => ?_
 refine zb ?_
 refine za (ze (v := (.bool false)) rfl ?_)
 refine zf ?_
 refine zc (hK1 _ _ ?_)
 refine wp_seq_k fun K2 hK2 => ?_
 refine zb ?_
 refine za (zd (v := (.int .i64 n)) rfl ?_)
 refine za (o_geq (a := n) (b := 0) rfl rfl ?_)
 refine za (zd (v := (.bool (decide (0 ≤ n)))) rfl ?_)
 by_cases h3 : 0 ≤ n
 ·
  refine zn 7 rfl (cT h3) (zd (v := (.int .i64 n)) rfl ?_)
  refine zn 7 rfl (cT h3) (zd (v := (.pointer (some ⟨db, 0, none⟩))) rfl ?_)
  refine zn 7 rfl (cT h3) (zk (vs := #[(.pointer (some ⟨db, 0, none⟩))]) ca85 rfl (zF rfl) (sectors_i (p := p) (la := la) (lo := lo) ((((hH.front 3 rfl).front 3 rfl).front 3 rfl).front 3 rfl).all4 ho hm ) ?_)
  rintro _ w6 ⟨rfl, hX4⟩
  refine ⟨_, rfl, ?_⟩
  have hH5 : Has E w6 [hL, [Hp.one mb (.map es c)], [Hp.one db (.cells #[(.pointer (some ⟨pb, 0, none⟩)), v, (.map (some mb))] 150 (0, 0))], [Hp.one pb (.cells #[(.bool p.off), (.bool p.armed), (.int .i64 p.left), (.int .i64 p.uses)] 145 (0, 0))], R] := hX4.of_all4
  refine zn 7 rfl (cT h3) (zL (a := n) (b := ((la.length : Nat) : Int)) rfl rfl ?_)
  refine za (zo (u := (.bool (decide (n < ((la.length : Nat) : Int))))) ((rfl : _ = _).trans (cT h3)) rfl ?_)
  refine za (ze (v := (.bool (decide (n < ((la.length : Nat) : Int))))) rfl ?_)
  refine zf ?_
  refine zc (hK2 _ _ ?_)
  refine wp_ret ?_
  refine zq Tryz.results93  (v := (.bool (decide (n < ((la.length : Nat) : Int))))) rfl ?_
  exact ⟨congrArg Ending.returned (congrArg Value.bool (decide_eq_decide.2 ⟨fun g => ⟨h3, g⟩, fun g => g.2⟩)), hH5⟩
 ·
  refine zi (b' := false) 7 rfl (cF h3) rfl ?_
  refine zi (b' := false) 7 rfl (cF h3) rfl ?_
  refine zi (b' := false) 7 rfl (cF h3) rfl ?_
  refine zi (b' := false) 7 rfl (cF h3) rfl ?_
  refine za (zm (u := (.bool false)) ((rfl : _ = _).trans (cF h3)) rfl ?_)
  refine za (ze (v := (.bool false)) rfl ?_)
  refine zf ?_
  refine zc (hK2 _ _ ?_)
  refine wp_ret ?_
  refine zq Tryz.results93  (v := (.bool false)) rfl ?_
  exact ⟨congrArg Ending.returned (congrArg Value.bool (decide_eq_false (fun g : inS n la.length => h3 g.1)).symm), hH⟩
end Go.Q
namespace Go.Q
open Go.Proofs
set_option linter.unusedVariables false
set_option maxRecDepth 100000
attribute [local irreducible] wpList OK Code.wp
set_option maxHeartbeats 4000000 in
theorem settle_i {E w : World} {R hL : List Hp} {pb db mb c : Nat} {p : Pw} {v : Value} {es : Array MapEntry} {la : List Bs} {lo : List (Int × Bs)} (hH : Has E w [hL, [Hp.one mb (.map es c)], [Hp.one db (.cells #[(.pointer (some ⟨pb, 0, none⟩)), v, (.map (some mb))] 150 (0, 0))], [Hp.one pb (.cells #[(.bool p.off), (.bool p.armed), (.int .i64 p.left), (.int .i64 p.uses)] 145 (0, 0))], R]) (ho : Own 9 1 v la.length (la.map sV) hL) (hm : MapV iV sV es c lo) (hlo : LoOk lo la.length) {vk : Value} {keep : List Int} (hk_ : Ints R vk keep) :
  Calls Tryz.prog 114 #[(.pointer (some ⟨db, 0, none⟩)), vk] w fun e w' => ∃ hL' es' c', e = .returned (.tuple #[]) ∧ Own 9 1 v (settleS lo la keep).length ((settleS lo la keep).map sV) hL' ∧ MapV iV sV es' c' ([] : List (Int × Bs)) ∧ Has E w' [hL', [Hp.one mb (.map es' c')], [Hp.one db (.cells #[(.pointer (some ⟨pb, 0, none⟩)), v, (.map (some mb))] 150 (0, 0))], [Hp.one pb (.cells #[(.bool p.off), (.bool p.armed), (.int .i64 p.left), (.int .i64 p.uses)] 145 (0, 0))], R] := by
 have hnk := hk_.le
 refine zs (args := [(.pointer (some ⟨db, 0, none⟩)), vk]) Tryz.func114 rfl Tryz.ntmps114 (by simp) ?_
 refine wp_seq_k fun K1 hK1 => ?_
 refine wp_seq_k fun K2 hK2 => ?_
 refine zb ?_
 refine za (zd (v := vk) rfl ?_)
 refine za (zY Tryz.underlying47 rfl hk_ ?_)
 refine za (zd (v := (.int .i64 0)) rfl ?_)
 refine zf ?_
 refine zc (hK2 _ _ ?_)
 refine wp_block ?_
 let I4 : Nat → (Nat → Value) → World → Prop := fun n__ r__ w__ => ∃ (k : Nat) (h2 : List Hp) (la2 : List Bs), n__ = keep.length - k ∧ Has E w__ [h2, [Hp.one mb (.map es c)], [Hp.one db (.cells #[(.pointer (some ⟨pb, 0, none⟩)), v, (.map (some mb))] 150 (0, 0))], [Hp.one pb (.cells #[(.bool p.off), (.bool p.armed), (.int .i64 p.left), (.int .i64 p.uses)] 145 (0, 0))], R] ∧ (k ≤ keep.length) ∧ (Own 9 1 v la2.length (la2.map sV) h2) ∧ (la2 = settleS lo la (keep.take k)) ∧ r__ 0 = (.pointer (some ⟨db, 0, none⟩)) ∧ r__ 1 = vk ∧ r__ 8 = vk ∧ r__ 9 = (.int .i64 ((keep.length : Nat) : Int)) ∧ r__ 10 = (.int .i64 (k : Int))
 refine zT I4 _ ⟨0, hL, la, rfl, hH, Nat.zero_le _, ho, rfl, rfl, rfl, rfl, rfl, rfl⟩ ?_
 rintro n_ r7 w5 ⟨k, h2, la2, rfl, hH6, hk, ho2, hla, e3_0, e3_1, e3_8, e3_9, e3_10⟩
 have hl2 : la2.length = la.length := (by rw [hla, settle_len])
 refine wp_seq_k fun K8 hK8 => ?_
 refine zb ?_
 refine za (zL (a := (k : Int)) (b := ((keep.length : Nat) : Int)) e3_10 e3_9 ?_)
 refine zf ?_
 refine zc (hK8 _ _ ?_)
 refine wp_seq_k fun K9 hK9 => ?_
 refine zt rfl (fun h10 => ?_) (fun h10 => ?_)
 ·
  refine wp_skip ?_
  refine zc (hK9 _ _ ?_)
  refine wp_seq_k fun K11 hK11 => ?_
  refine wp_block ?_
  refine wp_seq_k fun K12 hK12 => ?_
  refine zb ?_
  obtain ⟨x16, hx17⟩ : ∃ x_, keep[((k : Int)).toNat]? = some x_ := zM (by omega)
  refine za (yc Tryz.underlying47 ti3 e3_8 hk_ e3_10 (by omega) hx17 fun b13 o14 hc15 => ?_)
  refine za (zj (v := (.int .i64 x16)) Tryz.underlying3 rfl rfl hH6 (zh 4 rfl) hc15 ?_)
  refine za (ze (v := (.int .i64 x16)) rfl ?_)
  refine zf ?_
  refine zc (hK12 _ _ ?_)
  refine wp_seq_k fun K18 hK18 => ?_
  refine zb ?_
  refine za (zd (v := (.pointer (some ⟨db, 0, none⟩))) e3_0 ?_)
  refine za (zl rfl ?_)
  refine za (zg (k := 2) (fun _ => by kernel_rfl) rfl ?_)
  refine za (zj (v := (.map (some mb))) Tryz.underlying148 rfl rfl hH6 (zh 2 rfl) (CellsAt.one rfl) ?_)
  refine za (zd (v := (.int .i64 x16)) rfl ?_)
  refine za (o_lookupSk (L := [Hp.one mb (.map es c)]) (k := x16) Tryz.underlying148 (key_int Tryz.underlying3) ti9 rfl rfl hH6 (zh 1 rfl) rfl hm ?_)
  refine za (zd (v := (.tuple #[(S ((getB lo x16).getD [])), (.bool ((getB lo x16).isSome))])) rfl ?_)
  refine za (zp (v := (S ((getB lo x16).getD []))) rfl rfl ?_)
  refine za (zp (v := (.bool ((getB lo x16).isSome))) rfl rfl ?_)
  refine za (ze (v := (S ((getB lo x16).getD []))) rfl ?_)
  refine za (ze (v := (.bool ((getB lo x16).isSome))) rfl ?_)
  refine zf ?_
  refine zc (hK18 _ _ ?_)
  refine wp_seq_k fun K19 hK19 => ?_
  refine zb ?_
  refine za (zd (v := (.bool ((getB lo x16).isSome))) rfl ?_)
  refine zf ?_
  refine zc (hK19 _ _ ?_)
  refine zX rfl (fun h20 => ?_) (fun h20 => ?_)
  ·
   have hin_ := hlo.get h20
   unfold inS at hin_
   refine zb ?_
   refine za (zd (v := (.pointer (some ⟨db, 0, none⟩))) e3_0 ?_)
   refine za (zl rfl ?_)
   refine za (zg (k := 1) (fun _ => by kernel_rfl) rfl ?_)
   refine za (zj (v := v) Tryz.underlying46 rfl rfl hH6 (zh 2 rfl) (CellsAt.one rfl) ?_)
   refine za (zd (v := (.int .i64 x16)) rfl ?_)
   refine za (zd (v := (S ((getB lo x16).getD []))) rfl ?_)
   refine za (o_ownAddr Tryz.underlying46 ti9 rfl ho2 rfl (by omega) (by first | omega | (simp only [List.length_append, List.length_cons, List.length_nil, List.length_set]; omega)) fun b21 ho22 => ?_)
   refine zB (o_ownStore (f := sV) (l := la2) (a := ((getB lo x16).getD [])) ti9 rfl rfl rfl ho22 (by first | omega | (simp only [List.length_append, List.length_cons, List.length_nil, List.length_set]; omega)) hH6 fun s23 w24 ho25 hH26 => ?_)
   refine zf ?_
   refine zG ?_
   refine zc (hK11 _ _ ?_)
   refine zb ?_
   refine za (zH (a := (k : Int)) (b := 1) e3_10 rfl (w64 (by omega) (by omega)) ?_)
   refine za (zd (v := (.int .i64 ((k : Int) + 1))) rfl ?_)
   refine zf ?_
   refine zc ⟨keep.length - (k + 1), _, rfl, ?_, ?_⟩
   · omega
   · exact ⟨(k + 1), s23, (la2.set ((x16).toNat) ((getB lo x16).getD [])), rfl, hH26, (by omega), (ho25), (by rw [settle_yes (show keep[k]? = some _ from hx17) h20, ← hla]), e3_0, e3_1, e3_8, e3_9, rfl⟩
  ·
   refine wp_skip ?_
   refine zG ?_
   refine zc (hK11 _ _ ?_)
   refine zb ?_
   refine za (zH (a := (k : Int)) (b := 1) e3_10 rfl (w64 (by omega) (by omega)) ?_)
   refine za (zd (v := (.int .i64 ((k : Int) + 1))) rfl ?_)
   refine zf ?_
   refine zc ⟨keep.length - (k + 1), _, rfl, ?_, ?_⟩
   · omega
   · exact ⟨(k + 1), h2, la2, rfl, hH6, (by omega), (ho2), (by rw [settle_no (show keep[k]? = some _ from hx17) h20, ← hla]), e3_0, e3_1, e3_8, e3_9, rfl⟩
 ·
  refine wp_exit ?_
  refine zx (zx (x_in (?_)))
  refine zc (hK1 _ _ ?_)
  refine zb ?_
  refine za (zd (v := (.pointer (some ⟨db, 0, none⟩))) e3_0 ?_)
  refine za (zl rfl ?_)
  refine za (zg (k := 2) (fun _ => by kernel_rfl) rfl ?_)
  refine za (zj (v := (.map (some mb))) Tryz.underlying148 rfl rfl hH6 (zh 2 rfl) (CellsAt.one rfl) ?_)
  refine zB (o_clearMap (gk := iV) (f := sV) Tryz.underlying148 rfl (hH6.front 1 rfl) hm fun es27 c28 w29 he30 hH31 => ?_)
  refine zf ?_
  refine c_end0 Tryz.results114  ?_
  have hH32 : Has E w29 [h2, [Hp.one mb (.map es27 c28)], [Hp.one db (.cells #[(.pointer (some ⟨pb, 0, none⟩)), v, (.map (some mb))] 150 (0, 0))], [Hp.one pb (.cells #[(.bool p.off), (.bool p.armed), (.int .i64 p.left), (.int .i64 p.uses)] 145 (0, 0))], R] := (((((hH31.front 4 rfl).front 4 rfl).front 4 rfl).front 3 rfl).front 4 rfl).first 5 rfl
  have e_ : k = keep.length := by omega
  rw [e_, List.take_length] at hla
  exact ⟨_, _, _, rfl, by rw [← hla]; exact ho2, he30, hH32⟩
end Go.Q
namespace Go.Q
open Go.Proofs
set_option linter.unusedVariables false
set_option maxRecDepth 100000
attribute [local irreducible] wpList OK Code.wp
set_option maxHeartbeats 4000000 in
theorem loose_i {E w : World} {R hL : List Hp} {pb db mb c : Nat} {p : Pw} {v : Value} {es : Array MapEntry} {la : List Bs} {lo : List (Int × Bs)} (hH : Has E w [hL, [Hp.one mb (.map es c)], [Hp.one db (.cells #[(.pointer (some ⟨pb, 0, none⟩)), v, (.map (some mb))] 150 (0, 0))], [Hp.one pb (.cells #[(.bool p.off), (.bool p.armed), (.int .i64 p.left), (.int .i64 p.uses)] 145 (0, 0))], R]) (ho : Own 9 1 v la.length (la.map sV) hL) (hm : MapV iV sV es c lo) (hlo : LoOk lo la.length) (hla : la.length ≤ 4096) :
  Calls Tryz.prog 112 #[(.pointer (some ⟨db, 0, none⟩))] w fun e w' => ∃ v' hs', e = .returned v' ∧ Own 3 1 v' (keysS lo).length ((keysS lo).map iV) hs' ∧ Has E w' [hs', hL, [Hp.one mb (.map es c)], [Hp.one db (.cells #[(.pointer (some ⟨pb, 0, none⟩)), v, (.map (some mb))] 150 (0, 0))], [Hp.one pb (.cells #[(.bool p.off), (.bool p.armed), (.int .i64 p.left), (.int .i64 p.uses)] 145 (0, 0))], R] := by
 refine zs (args := [(.pointer (some ⟨db, 0, none⟩))]) Tryz.func112 rfl Tryz.ntmps112 (by simp) ?_
 refine wp_seq_k fun K1 hK1 => ?_
 refine zb ?_
 refine za (ze (v := (.slice none 0 0)) rfl ?_)
 refine zf ?_
 refine zc (hK1 _ _ ?_)
 refine wp_seq_k fun K2 hK2 => ?_
 refine wp_seq_k fun K3 hK3 => ?_
 refine zb ?_
 refine za (zd (v := (.pointer (some ⟨db, 0, none⟩))) rfl ?_)
 refine za (o_pnil (p := some _) Tryz.underlying25 rfl rfl ?_)
 refine zf ?_
 refine zc (hK3 _ _ ?_)
 refine zS rfl rfl ?_
 refine wp_skip ?_
 refine zc (hK2 _ _ ?_)
 refine wp_seq_k fun K4 hK4 => ?_
 refine zb ?_
 refine za (zd (v := (.pointer (some ⟨db, 0, none⟩))) rfl ?_)
 refine za (zl rfl ?_)
 refine za (zg (k := 2) (fun _ => by kernel_rfl) rfl ?_)
 refine za (zj (v := (.map (some mb))) Tryz.underlying148 rfl rfl hH (zh 2 rfl) (CellsAt.one rfl) ?_)
 refine za (zk (vs := #[(.map (some mb))]) ca203 rfl (zF rfl) (mkeys_c hH.all mb) ?_)
 rintro _ w9 ⟨b5, rfl, hX7⟩
 refine ⟨_, rfl, ?_⟩
 have hH8 : Has E w9 [[Hp.one b5 (.cells #[(.map (some mb))] 148 (0, 0))], hL, [Hp.one mb (.map es c)], [Hp.one db (.cells #[(.pointer (some ⟨pb, 0, none⟩)), v, (.map (some mb))] 150 (0, 0))], [Hp.one pb (.cells #[(.bool p.off), (.bool p.armed), (.int .i64 p.left), (.int .i64 p.uses)] 145 (0, 0))], R] := hX7.of_all1
 refine za (zk (vs := #[(.func (.func 281) #[] #[.pointer (some ⟨b5, 0, none⟩)])]) ca202 rfl (zF rfl) (skeys_c ((hH8.front 2 rfl).front 1 rfl).all2 hm (fun q hq => wf_of (hlo q hq).1 (by omega)) (lo_le hm hlo (by omega))) ?_)
 rintro _ w15 ⟨v10, s11, rfl, ho12, hX13⟩
 refine ⟨_, rfl, ?_⟩
 have hH14 : Has E w15 [s11, [Hp.one b5 (.cells #[(.map (some mb))] 148 (0, 0))], [Hp.one mb (.map es c)], hL, [Hp.one db (.cells #[(.pointer (some ⟨pb, 0, none⟩)), v, (.map (some mb))] 150 (0, 0))], [Hp.one pb (.cells #[(.bool p.off), (.bool p.armed), (.int .i64 p.left), (.int .i64 p.uses)] 145 (0, 0))], R] := hX13.of_all3
 refine za (ze (v := v10) rfl ?_)
 refine zf ?_
 refine zc (hK4 _ _ ?_)
 refine wp_ret ?_
 refine zq Tryz.results112  (v := v10) rfl ?_
 have hH16 : Has E w15 [s11, hL, [Hp.one mb (.map es c)], [Hp.one db (.cells #[(.pointer (some ⟨pb, 0, none⟩)), v, (.map (some mb))] 150 (0, 0))], [Hp.one pb (.cells #[(.bool p.off), (.bool p.armed), (.int .i64 p.left), (.int .i64 p.uses)] 145 (0, 0))], R] := Has.pick hH14 [0, 2, 1, 1, 1, 1] (by kernel_rfl)
 exact ⟨_, _, rfl, ho12, hH16⟩
end Go.Q
namespace Go.Q
open Go.Proofs
set_option linter.unusedVariables false
set_option maxRecDepth 100000
attribute [local irreducible] wpList OK Code.wp
set_option maxHeartbeats 4000000 in
theorem write_i {E w : World} {R hL : List Hp} {pb db mb c : Nat} {p : Pw} {v : Value} {es : Array MapEntry} {la : List Bs} {lo : List (Int × Bs)} (hH : Has E w [hL, [Hp.one mb (.map es c)], [Hp.one db (.cells #[(.pointer (some ⟨pb, 0, none⟩)), v, (.map (some mb))] 150 (0, 0))], [Hp.one pb (.cells #[(.bool p.off), (.bool p.armed), (.int .i64 p.left), (.int .i64 p.uses)] 145 (0, 0))], R]) (ho : Own 9 1 v la.length (la.map sV) hL) (hm : MapV iV sV es c lo) (hp : PwOk p) (hla : la.length ≤ 4096) (n : Int) {vd : Value} {l : List Bs} (hd : Sl R 1 vd l.length (l.map sV)) (hn : l.length ≤ 1000000) (hl : l.flatten.length ≤ 1000000000) :
  Calls Tryz.prog 122 #[(.pointer (some ⟨db, 0, none⟩)), (.int .i64 n), vd] w fun e w' => ∃ es' c', e = .returned (.int .i64 (writeE p la.length n l.flatten)) ∧ MapV iV sV es' c' (writeS p la.length lo n l.flatten) ∧ Has E w' [hL, [Hp.one mb (.map es' c')], [Hp.one db (.cells #[(.pointer (some ⟨pb, 0, none⟩)), v, (.map (some mb))] 150 (0, 0))], [Hp.one pb (.cells #[(.bool (useS p).off), (.bool (useS p).armed), (.int .i64 (useS p).left), (.int .i64 (useS p).uses)] 145 (0, 0))], R] := by
 have hn_ := hd.le
 refine zs (args := [(.pointer (some ⟨db, 0, none⟩)), (.int .i64 n), vd]) Tryz.func122 rfl Tryz.ntmps122 (by simp) ?_
 refine wp_seq_k fun K1 hK1 => ?_
 refine zb ?_
 refine za (ze (v := (.int .i64 0)) rfl ?_)
 refine zf ?_
 refine zc (hK1 _ _ ?_)
 refine wp_seq_k fun K2 hK2 => ?_
 refine wp_seq_k fun K3 hK3 => ?_
 refine zb ?_
 refine za (zd (v := (.pointer (some ⟨db, 0, none⟩))) rfl ?_)
 refine za (o_pnil (p := some _) Tryz.underlying25 rfl rfl ?_)
 refine zf ?_
 refine zc (hK3 _ _ ?_)
 refine zS rfl rfl ?_
 refine wp_skip ?_
 refine zc (hK2 _ _ ?_)
 refine wp_seq_k fun K4 hK4 => ?_
 refine wp_seq_k fun K5 hK5 => ?_
 refine zb ?_
 refine za (zd (v := (.pointer (some ⟨db, 0, none⟩))) rfl ?_)
 refine za (zl rfl ?_)
 refine za (zg (k := 0) (fun _ => by kernel_rfl) rfl ?_)
 refine za (zj (v := (.pointer (some ⟨pb, 0, none⟩))) Tryz.underlying97 rfl rfl hH (zh 2 rfl) (CellsAt.one rfl) ?_)
 refine za (zk (vs := #[(.pointer (some ⟨pb, 0, none⟩))]) ca124 rfl (zF rfl) (use_c (p := p) (hH.front 3 rfl).all1 hp) ?_)
 rintro _ w8 ⟨rfl, hX6⟩
 refine ⟨_, rfl, ?_⟩
 have hH7 : Has E w8 [[Hp.one pb (.cells #[(.bool (useS p).off), (.bool (useS p).armed), (.int .i64 (useS p).left), (.int .i64 (useS p).uses)] 145 (0, 0))], hL, [Hp.one mb (.map es c)], [Hp.one db (.cells #[(.pointer (some ⟨pb, 0, none⟩)), v, (.map (some mb))] 150 (0, 0))], R] := hX6.of_all1
 refine za (o_not rfl ?_)
 refine zf ?_
 refine zc (hK5 _ _ ?_)
 refine zX rfl (fun h9 => ?_) (fun h9 => ?_)
 ·
  have h9_n : (useB p) = false := by first | simpa using h9 | exact Bool.of_not_eq_true (fun g_ => by rw [g_] at h9; cases h9)
  refine wp_seq_k fun K10 hK10 => ?_
  refine zb ?_
  refine za (ze (v := (.int .i64 6)) rfl ?_)
  refine zf ?_
  refine zc (hK10 _ _ ?_)
  refine wp_ret ?_
  refine zv (zq Tryz.results122  (v := (.int .i64 6)) rfl ?_)
  have hH11 : Has E w8 [hL, [Hp.one mb (.map es c)], [Hp.one db (.cells #[(.pointer (some ⟨pb, 0, none⟩)), v, (.map (some mb))] 150 (0, 0))], [Hp.one pb (.cells #[(.bool (useS p).off), (.bool (useS p).armed), (.int .i64 (useS p).left), (.int .i64 (useS p).uses)] 145 (0, 0))], R] := (((((hH7.front 4 rfl).front 1 rfl).front 4 rfl).front 4 rfl).front 4 rfl).first 5 rfl
  exact ⟨_, _, by rw [writeE, if_neg (ne_true_of_eq_false h9_n)], by rw [writeS, if_neg (fun g => (ne_true_of_eq_false h9_n) g.1)]; exact hm, hH11⟩
 ·
  have h9_n : (useB p) = true := by first | simpa using h9 | exact Bool.of_not_eq_false (fun g_ => by rw [g_] at h9; cases h9)
  refine wp_skip ?_
  refine zc (hK4 _ _ ?_)
  refine wp_seq_k fun K12 hK12 => ?_
  refine zb ?_
  refine za (zd (v := vd) rfl ?_)
  refine za (zk (vs := #[vd]) ca92 rfl (zF rfl) (filled_c hH7.all (l := l) (hd.mono (zh 4 rfl)) (by omega) (by omega)) ?_)
  rintro _ w15 ⟨rfl, hX13⟩
  refine ⟨_, rfl, ?_⟩
  have hH14 := hX13.of_all
  refine za (zd (v := (.tuple #[(S (if l.flatten.length ≤ 64 then fillS l.flatten else [])), (.bool (decide (l.flatten.length ≤ 64)))])) rfl ?_)
  refine za (zp (v := (S (if l.flatten.length ≤ 64 then fillS l.flatten else []))) rfl rfl ?_)
  refine za (zp (v := (.bool (decide (l.flatten.length ≤ 64)))) rfl rfl ?_)
  refine za (ze (v := (S (if l.flatten.length ≤ 64 then fillS l.flatten else []))) rfl ?_)
  refine za (ze (v := (.bool (decide (l.flatten.length ≤ 64)))) rfl ?_)
  refine zf ?_
  refine zc (hK12 _ _ ?_)
  refine wp_seq_k fun K16 hK16 => ?_
  refine wp_seq_k fun K17 hK17 => ?_
  refine zb ?_
  refine za (zd (v := (.bool (decide (l.flatten.length ≤ 64)))) rfl ?_)
  refine za (o_not2 (b := decide (l.flatten.length ≤ 64)) (b' := decide (¬ (l.flatten.length ≤ 64))) rfl not_dec ?_)
  refine za (zd (v := (.bool (decide (¬ (l.flatten.length ≤ 64))))) rfl ?_)
  by_cases h18 : ¬ (l.flatten.length ≤ 64)
  ·
   refine zi (b' := true) 24 rfl (cT h18) rfl ?_
   refine zi (b' := true) 24 rfl (cT h18) rfl ?_
   refine zi (b' := true) 24 rfl (cT h18) rfl ?_
   refine zi (b' := true) 24 rfl (cT h18) rfl ?_
   refine za (zo (u := (.bool true)) ((rfl : _ = _).trans (cT h18)) rfl ?_)
   refine zf ?_
   refine zc (hK17 _ _ ?_)
   refine zN rfl rfl ?_
   refine wp_seq_k fun K19 hK19 => ?_
   refine zb ?_
   refine za (ze (v := (.int .i64 1)) rfl ?_)
   refine zf ?_
   refine zc (hK19 _ _ ?_)
   refine wp_ret ?_
   refine zv (zq Tryz.results122  (v := (.int .i64 1)) rfl ?_)
   have hH20 : Has E w15 [hL, [Hp.one mb (.map es c)], [Hp.one db (.cells #[(.pointer (some ⟨pb, 0, none⟩)), v, (.map (some mb))] 150 (0, 0))], [Hp.one pb (.cells #[(.bool (useS p).off), (.bool (useS p).armed), (.int .i64 (useS p).left), (.int .i64 (useS p).uses)] 145 (0, 0))], R] := (((((hH14.front 4 rfl).front 1 rfl).front 4 rfl).front 4 rfl).front 4 rfl).first 5 rfl
   exact ⟨_, _, by rw [writeE, if_pos h9_n, if_neg (fun g => h18 g.1)], by rw [writeS, if_neg (fun g => h18 g.2.1)]; exact hm, hH20⟩
  ·
   refine zn 24 rfl (cF h18) (zd (v := (.pointer (some ⟨db, 0, none⟩))) rfl ?_)
   refine zn 24 rfl (cF h18) (zd (v := (.int .i64 n)) rfl ?_)
   refine zn 24 rfl (cF h18) (zk (vs := #[(.pointer (some ⟨db, 0, none⟩)), (.int .i64 n)]) ca93 rfl (zI rfl rfl) (has_i (p := (useS p)) (la := la) (lo := lo) (((hH14.front 3 rfl).front 3 rfl).front 3 rfl).all4 ho hm n) ?_)
   rintro _ w23 ⟨rfl, hX21⟩
   refine ⟨_, rfl, ?_⟩
   have hH22 : Has E w23 [hL, [Hp.one mb (.map es c)], [Hp.one db (.cells #[(.pointer (some ⟨pb, 0, none⟩)), v, (.map (some mb))] 150 (0, 0))], [Hp.one pb (.cells #[(.bool (useS p).off), (.bool (useS p).armed), (.int .i64 (useS p).left), (.int .i64 (useS p).uses)] 145 (0, 0))], R] := hX21.of_all4
   refine zn 24 rfl (cF h18) (o_not2 (b := decide (inS n la.length)) (b' := decide (¬ (inS n la.length))) rfl not_dec ?_)
   refine za (zm (u := (.bool (decide (¬ (inS n la.length))))) ((rfl : _ = _).trans (cF h18)) rfl ?_)
   refine zf ?_
   refine zc (hK17 _ _ ?_)
   refine zt rfl (fun h24 => ?_) (fun h24 => ?_)
   ·
    refine wp_seq_k fun K25 hK25 => ?_
    refine zb ?_
    refine za (ze (v := (.int .i64 1)) rfl ?_)
    refine zf ?_
    refine zc (hK25 _ _ ?_)
    refine wp_ret ?_
    refine zv (zq Tryz.results122  (v := (.int .i64 1)) rfl ?_)
    exact ⟨_, _, by rw [writeE, if_pos h9_n, if_neg (fun g => h24 g.2)], by rw [writeS, if_neg (fun g => h24 g.2.2)]; exact hm, hH22⟩
   ·
    refine wp_skip ?_
    refine zc (hK16 _ _ ?_)
    refine wp_seq_k fun K26 hK26 => ?_
    refine zb ?_
    refine za (zd (v := (.pointer (some ⟨db, 0, none⟩))) rfl ?_)
    refine za (zl rfl ?_)
    refine za (zg (k := 2) (fun _ => by kernel_rfl) rfl ?_)
    refine za (zj (v := (.map (some mb))) Tryz.underlying148 rfl rfl hH22 (zh 2 rfl) (CellsAt.one rfl) ?_)
    refine za (zd (v := (.int .i64 n)) rfl ?_)
    refine za (zd (v := (S (if l.flatten.length ≤ 64 then fillS l.flatten else []))) rfl ?_)
    refine zB (o_mapUpdateB (gk := iV) (f := sV) (k := n) (v := (if l.flatten.length ≤ 64 then fillS l.flatten else [])) Tryz.underlying148 (key_int Tryz.underlying3) rfl rfl rfl (hH22.front 1 rfl) hm fun es27 c28 w29 he30 hH31 => ?_)
    refine zf ?_
    refine zc (hK26 _ _ ?_)
    refine wp_seq_k fun K32 hK32 => ?_
    refine zb ?_
    refine za (ze (v := (.int .i64 0)) rfl ?_)
    refine zf ?_
    refine zc (hK32 _ _ ?_)
    refine wp_ret ?_
    refine zq Tryz.results122  (v := (.int .i64 0)) rfl ?_
    have hH33 : Has E w29 [hL, [Hp.one mb (.map es27 c28)], [Hp.one db (.cells #[(.pointer (some ⟨pb, 0, none⟩)), v, (.map (some mb))] 150 (0, 0))], [Hp.one pb (.cells #[(.bool (useS p).off), (.bool (useS p).armed), (.int .i64 (useS p).left), (.int .i64 (useS p).uses)] 145 (0, 0))], R] := (((((hH31.front 4 rfl).front 4 rfl).front 4 rfl).front 3 rfl).front 4 rfl).first 5 rfl
    exact ⟨_, _, by rw [writeE, if_pos h9_n, if_pos ⟨(Classical.not_not.1 h18), (Classical.not_not.1 h24)⟩], by rw [writeS, if_pos ⟨h9_n, (Classical.not_not.1 h18), (Classical.not_not.1 h24)⟩]; rw [if_pos (Classical.not_not.1 h18)] at he30; exact he30, hH33⟩
set_option maxHeartbeats 4000000 in
theorem sync_i {E w : World} {R hL : List Hp} {pb db mb c : Nat} {p : Pw} {v : Value} {es : Array MapEntry} {la : List Bs} {lo : List (Int × Bs)} (hH : Has E w [hL, [Hp.one mb (.map es c)], [Hp.one db (.cells #[(.pointer (some ⟨pb, 0, none⟩)), v, (.map (some mb))] 150 (0, 0))], [Hp.one pb (.cells #[(.bool p.off), (.bool p.armed), (.int .i64 p.left), (.int .i64 p.uses)] 145 (0, 0))], R]) (ho : Own 9 1 v la.length (la.map sV) hL) (hm : MapV iV sV es c lo) (hp : PwOk p) (hla : la.length ≤ 4096) (hlo : LoOk lo la.length) :
  Calls Tryz.prog 32 #[(.pointer (some ⟨db, 0, none⟩))] w fun e w' => ∃ hL' es' c', e = .returned (.int .i64 (syncE p)) ∧ Own 9 1 v (syncA p la lo).length ((syncA p la lo).map sV) hL' ∧ MapV iV sV es' c' (syncO p lo) ∧ Has E w' [hL', [Hp.one mb (.map es' c')], [Hp.one db (.cells #[(.pointer (some ⟨pb, 0, none⟩)), v, (.map (some mb))] 150 (0, 0))], [Hp.one pb (.cells #[(.bool (useS p).off), (.bool (useS p).armed), (.int .i64 (useS p).left), (.int .i64 (useS p).uses)] 145 (0, 0))], R] := by
 refine zs (args := [(.pointer (some ⟨db, 0, none⟩))]) Tryz.func32 rfl Tryz.ntmps32 (by simp) ?_
 refine wp_seq_k fun K1 hK1 => ?_
 refine zb ?_
 refine za (ze (v := (.int .i64 0)) rfl ?_)
 refine zf ?_
 refine zc (hK1 _ _ ?_)
 refine wp_seq_k fun K2 hK2 => ?_
 refine wp_seq_k fun K3 hK3 => ?_
 refine zb ?_
 refine za (zd (v := (.pointer (some ⟨db, 0, none⟩))) rfl ?_)
 refine za (o_pnil (p := some _) Tryz.underlying25 rfl rfl ?_)
 refine zf ?_
 refine zc (hK3 _ _ ?_)
 refine zS rfl rfl ?_
 refine wp_skip ?_
 refine zc (hK2 _ _ ?_)
 refine wp_seq_k fun K4 hK4 => ?_
 refine wp_seq_k fun K5 hK5 => ?_
 refine zb ?_
 refine za (zd (v := (.pointer (some ⟨db, 0, none⟩))) rfl ?_)
 refine za (zl rfl ?_)
 refine za (zg (k := 0) (fun _ => by kernel_rfl) rfl ?_)
 refine za (zj (v := (.pointer (some ⟨pb, 0, none⟩))) Tryz.underlying97 rfl rfl hH (zh 2 rfl) (CellsAt.one rfl) ?_)
 refine za (zk (vs := #[(.pointer (some ⟨pb, 0, none⟩))]) ca124 rfl (zF rfl) (use_c (p := p) (hH.front 3 rfl).all1 hp) ?_)
 rintro _ w8 ⟨rfl, hX6⟩
 refine ⟨_, rfl, ?_⟩
 have hH7 : Has E w8 [[Hp.one pb (.cells #[(.bool (useS p).off), (.bool (useS p).armed), (.int .i64 (useS p).left), (.int .i64 (useS p).uses)] 145 (0, 0))], hL, [Hp.one mb (.map es c)], [Hp.one db (.cells #[(.pointer (some ⟨pb, 0, none⟩)), v, (.map (some mb))] 150 (0, 0))], R] := hX6.of_all1
 refine za (o_not rfl ?_)
 refine zf ?_
 refine zc (hK5 _ _ ?_)
 refine zX rfl (fun h9 => ?_) (fun h9 => ?_)
 ·
  have h9_n : (useB p) = false := by first | simpa using h9 | exact Bool.of_not_eq_true (fun g_ => by rw [g_] at h9; cases h9)
  refine wp_seq_k fun K10 hK10 => ?_
  refine zb ?_
  refine za (ze (v := (.int .i64 6)) rfl ?_)
  refine zf ?_
  refine zc (hK10 _ _ ?_)
  refine wp_ret ?_
  refine zv (zq Tryz.results32  (v := (.int .i64 6)) rfl ?_)
  have hH11 : Has E w8 [hL, [Hp.one mb (.map es c)], [Hp.one db (.cells #[(.pointer (some ⟨pb, 0, none⟩)), v, (.map (some mb))] 150 (0, 0))], [Hp.one pb (.cells #[(.bool (useS p).off), (.bool (useS p).armed), (.int .i64 (useS p).left), (.int .i64 (useS p).uses)] 145 (0, 0))], R] := (((((hH7.front 4 rfl).front 1 rfl).front 4 rfl).front 4 rfl).front 4 rfl).first 5 rfl
  exact ⟨_, _, _, by rw [syncE, if_neg (ne_true_of_eq_false h9_n)], by rw [syncA, if_neg (ne_true_of_eq_false h9_n)]; exact ho, by rw [syncO, if_neg (ne_true_of_eq_false h9_n)]; exact hm, hH11⟩
 ·
  have h9_n : (useB p) = true := by first | simpa using h9 | exact Bool.of_not_eq_false (fun g_ => by rw [g_] at h9; cases h9)
  refine wp_skip ?_
  refine zc (hK4 _ _ ?_)
  refine wp_seq_k fun K12 hK12 => ?_
  refine zb ?_
  refine za (zd (v := (.pointer (some ⟨db, 0, none⟩))) rfl ?_)
  refine za (zd (v := (.pointer (some ⟨db, 0, none⟩))) rfl ?_)
  refine za (zk (vs := #[(.pointer (some ⟨db, 0, none⟩))]) ca112 rfl (zF rfl) (loose_i (p := (useS p)) (la := la) (lo := lo) (((hH7.front 3 rfl).front 3 rfl).front 3 rfl).all4 ho hm hlo (by omega)) ?_)
  rintro _ w18 ⟨v13, s14, rfl, ho15, hX16⟩
  refine ⟨_, rfl, ?_⟩
  have hH17 : Has E w18 [s14, hL, [Hp.one mb (.map es c)], [Hp.one db (.cells #[(.pointer (some ⟨pb, 0, none⟩)), v, (.map (some mb))] 150 (0, 0))], [Hp.one pb (.cells #[(.bool (useS p).off), (.bool (useS p).armed), (.int .i64 (useS p).left), (.int .i64 (useS p).uses)] 145 (0, 0))], R] := hX16.of_all5
  refine za (zk (vs := #[(.pointer (some ⟨db, 0, none⟩)), v13]) ca114 rfl (zI rfl rfl) (settle_i (p := (useS p)) (la := la) (lo := lo) ((((hH17.front 4 rfl).front 4 rfl).front 4 rfl).front 4 rfl).all4 ho hm hlo (keep := (keysS lo)) (ho15.sl.mono (zh 0 rfl))) ?_)
  rintro _ w26 ⟨s19, es21, c22, rfl, ho20, hm23, hX24⟩
  refine ⟨_, rfl, ?_⟩
  have hH25 : Has E w26 [s19, [Hp.one mb (.map es21 c22)], [Hp.one db (.cells #[(.pointer (some ⟨pb, 0, none⟩)), v, (.map (some mb))] 150 (0, 0))], [Hp.one pb (.cells #[(.bool (useS p).off), (.bool (useS p).armed), (.int .i64 (useS p).left), (.int .i64 (useS p).uses)] 145 (0, 0))], s14, R] := hX24.of_all4
  refine zf ?_
  refine zc (hK12 _ _ ?_)
  refine wp_seq_k fun K27 hK27 => ?_
  refine zb ?_
  refine za (ze (v := (.int .i64 0)) rfl ?_)
  refine zf ?_
  refine zc (hK27 _ _ ?_)
  refine wp_ret ?_
  refine zq Tryz.results32  (v := (.int .i64 0)) rfl ?_
  have hH28 : Has E w26 [s19, [Hp.one mb (.map es21 c22)], [Hp.one db (.cells #[(.pointer (some ⟨pb, 0, none⟩)), v, (.map (some mb))] 150 (0, 0))], [Hp.one pb (.cells #[(.bool (useS p).off), (.bool (useS p).armed), (.int .i64 (useS p).left), (.int .i64 (useS p).uses)] 145 (0, 0))], R] := (((((hH25.front 5 rfl).front 4 rfl).front 4 rfl).front 4 rfl).front 4 rfl).first 5 rfl
  exact ⟨_, _, _, by rw [syncE, if_pos h9_n], by rw [syncA, if_pos h9_n]; exact ho20, by rw [syncO, if_pos h9_n]; exact hm23, hH28⟩
set_option maxHeartbeats 4000000 in
theorem read_i {E w : World} {R hL : List Hp} {pb db mb c : Nat} {p : Pw} {v : Value} {es : Array MapEntry} {la : List Bs} {lo : List (Int × Bs)} (hH : Has E w [hL, [Hp.one mb (.map es c)], [Hp.one db (.cells #[(.pointer (some ⟨pb, 0, none⟩)), v, (.map (some mb))] 150 (0, 0))], [Hp.one pb (.cells #[(.bool p.off), (.bool p.armed), (.int .i64 p.left), (.int .i64 p.uses)] 145 (0, 0))], R]) (ho : Own 9 1 v la.length (la.map sV) hL) (hm : MapV iV sV es c lo) (n : Int) :
  Calls Tryz.prog 188 #[(.pointer (some ⟨db, 0, none⟩)), (.int .i64 n)] w fun e w' => e = .returned (.tuple #[S (readS p la lo n), .int .i64 (readE p la n)]) ∧ Has E w' [hL, [Hp.one mb (.map es c)], [Hp.one db (.cells #[(.pointer (some ⟨pb, 0, none⟩)), v, (.map (some mb))] 150 (0, 0))], [Hp.one pb (.cells #[(.bool p.off), (.bool p.armed), (.int .i64 p.left), (.int .i64 p.uses)] 145 (0, 0))], R] := by
 refine zs (args := [(.pointer (some ⟨db, 0, none⟩)), (.int .i64 n)]) Tryz.func188 rfl Tryz.ntmps188 (by simp) ?_
 refine wp_seq_k fun K1 hK1 => ?_
 refine zb ?_
 refine za (ze (v := (S ([] : List UInt8))) rfl ?_)
 refine za (ze (v := (.int .i64 0)) rfl ?_)
 refine zf ?_
 refine zc (hK1 _ _ ?_)
 refine wp_seq_k fun K2 hK2 => ?_
 refine wp_block ?_
 refine wp_seq_k fun K3 hK3 => ?_
 refine zb ?_
 refine za (zd (v := (.pointer (some ⟨db, 0, none⟩))) rfl ?_)
 refine za (o_pnil (p := some _) Tryz.underlying25 rfl rfl ?_)
 refine za (ze (v := (.bool false)) rfl ?_)
 refine zf ?_
 refine zc (hK3 _ _ ?_)
 refine zS rfl rfl ?_
 refine wp_seq_k fun K4 hK4 => ?_
 refine zb ?_
 refine za (zd (v := (.pointer (some ⟨db, 0, none⟩))) rfl ?_)
 refine za (zk (vs := #[(.pointer (some ⟨db, 0, none⟩))]) ca186 rfl (zF rfl) (don_i (p := p) (la := la) (lo := lo) ((((hH.front 3 rfl).front 3 rfl).front 3 rfl).front 3 rfl).all4 ho hm ) ?_)
 rintro _ w7 ⟨rfl, hX5⟩
 refine ⟨_, rfl, ?_⟩
 have hH6 : Has E w7 [hL, [Hp.one mb (.map es c)], [Hp.one db (.cells #[(.pointer (some ⟨pb, 0, none⟩)), v, (.map (some mb))] 150 (0, 0))], [Hp.one pb (.cells #[(.bool p.off), (.bool p.armed), (.int .i64 p.left), (.int .i64 p.uses)] 145 (0, 0))], R] := hX5.of_all4
 refine za (o_not rfl ?_)
 refine za (ze (v := (.bool (!(!p.off)))) rfl ?_)
 refine zf ?_
 refine zc (hK4 _ _ ?_)
 refine zX rfl (fun h8 => ?_) (fun h8 => ?_)
 ·
  have h8_n : (!p.off) = false := by first | simpa using h8 | exact Bool.of_not_eq_true (fun g_ => by rw [g_] at h8; cases h8)
  have h8_n_n : p.off = true := by first | simpa using h8_n | exact Bool.of_not_eq_false (fun g_ => by rw [g_] at h8_n; cases h8_n)
  refine wp_seq_k fun K9 hK9 => ?_
  refine zb ?_
  refine za (ze (v := (S ([] : List UInt8))) rfl ?_)
  refine za (ze (v := (.int .i64 6)) rfl ?_)
  refine zf ?_
  refine zc (hK9 _ _ ?_)
  refine wp_ret ?_
  refine b_ret (zv (zV Tryz.results188  (v := (S ([] : List UInt8))) rfl (x := (.int .i64 6)) rfl ?_))
  have e1_ : readS p la lo n = ([] : List UInt8) := by rw [readS, if_pos h8_n_n]
  have e2_ : readE p la n = 6 := by rw [readE, if_pos h8_n_n]
  exact ⟨by rw [e1_, e2_], hH6⟩
 ·
  have h8_n : (!p.off) = true := by first | simpa using h8 | exact Bool.of_not_eq_false (fun g_ => by rw [g_] at h8; cases h8)
  have h8_n_n : p.off = false := by first | simpa using h8_n | exact Bool.of_not_eq_true (fun g_ => by rw [g_] at h8_n; cases h8_n)
  refine wp_seq_k fun K10 hK10 => ?_
  refine zb ?_
  refine za (zd (v := (.pointer (some ⟨db, 0, none⟩))) rfl ?_)
  refine za (zd (v := (.int .i64 n)) rfl ?_)
  refine za (zk (vs := #[(.pointer (some ⟨db, 0, none⟩)), (.int .i64 n)]) ca93 rfl (zI rfl rfl) (has_i (p := p) (la := la) (lo := lo) ((((hH6.front 3 rfl).front 3 rfl).front 3 rfl).front 3 rfl).all4 ho hm n) ?_)
  rintro _ w13 ⟨rfl, hX11⟩
  refine ⟨_, rfl, ?_⟩
  have hH12 : Has E w13 [hL, [Hp.one mb (.map es c)], [Hp.one db (.cells #[(.pointer (some ⟨pb, 0, none⟩)), v, (.map (some mb))] 150 (0, 0))], [Hp.one pb (.cells #[(.bool p.off), (.bool p.armed), (.int .i64 p.left), (.int .i64 p.uses)] 145 (0, 0))], R] := hX11.of_all4
  refine za (o_not2 (b := decide (inS n la.length)) (b' := decide (¬ (inS n la.length))) rfl not_dec ?_)
  refine za (ze (v := (.bool (decide (¬ (inS n la.length))))) rfl ?_)
  refine zf ?_
  refine zc (hK10 _ _ ?_)
  refine zt rfl (fun h14 => ?_) (fun h14 => ?_)
  ·
   refine wp_seq_k fun K15 hK15 => ?_
   refine zb ?_
   refine za (ze (v := (S ([] : List UInt8))) rfl ?_)
   refine za (ze (v := (.int .i64 1)) rfl ?_)
   refine zf ?_
   refine zc (hK15 _ _ ?_)
   refine wp_ret ?_
   refine b_ret (zv (zV Tryz.results188  (v := (S ([] : List UInt8))) rfl (x := (.int .i64 1)) rfl ?_))
   have e1_ : readS p la lo n = ([] : List UInt8) := by rw [readS, if_neg (ne_true_of_eq_false h8_n_n), if_neg h14]
   have e2_ : readE p la n = 1 := by rw [readE, if_neg (ne_true_of_eq_false h8_n_n), if_neg h14]
   exact ⟨by rw [e1_, e2_], hH12⟩
  ·
   have hin_ : inS n la.length := Classical.not_not.1 h14
   unfold inS at hin_
   refine wp_skip ?_
   refine zG ?_
   refine zc (hK2 _ _ ?_)
   refine wp_seq_k fun K16 hK16 => ?_
   refine wp_seq_k fun K17 hK17 => ?_
   refine zb ?_
   refine za (zd (v := (.pointer (some ⟨db, 0, none⟩))) rfl ?_)
   refine za (zl rfl ?_)
   refine za (zg (k := 2) (fun _ => by kernel_rfl) rfl ?_)
   refine za (zj (v := (.map (some mb))) Tryz.underlying148 rfl rfl hH12 (zh 2 rfl) (CellsAt.one rfl) ?_)
   refine za (zd (v := (.int .i64 n)) rfl ?_)
   refine za (o_lookupSk (L := [Hp.one mb (.map es c)]) (k := n) Tryz.underlying148 (key_int Tryz.underlying3) ti9 rfl rfl hH12 (zh 1 rfl) rfl hm ?_)
   refine za (zd (v := (.tuple #[(S ((getB lo n).getD [])), (.bool ((getB lo n).isSome))])) rfl ?_)
   refine za (zp (v := (S ((getB lo n).getD []))) rfl rfl ?_)
   refine za (zp (v := (.bool ((getB lo n).isSome))) rfl rfl ?_)
   refine za (ze (v := (S ((getB lo n).getD []))) rfl ?_)
   refine za (ze (v := (.bool ((getB lo n).isSome))) rfl ?_)
   refine zf ?_
   refine zc (hK17 _ _ ?_)
   refine wp_seq_k fun K18 hK18 => ?_
   refine zb ?_
   refine za (zd (v := (.bool ((getB lo n).isSome))) rfl ?_)
   refine zf ?_
   refine zc (hK18 _ _ ?_)
   refine zX rfl (fun h19 => ?_) (fun h19 => ?_)
   ·
    refine wp_seq_k fun K20 hK20 => ?_
    refine zb ?_
    refine za (zd (v := (S ((getB lo n).getD []))) rfl ?_)
    refine za (ze (v := (S ((getB lo n).getD []))) rfl ?_)
    refine za (ze (v := (.int .i64 0)) rfl ?_)
    refine zf ?_
    refine zc (hK20 _ _ ?_)
    refine wp_ret ?_
    refine zv (zV Tryz.results188  (v := (S ((getB lo n).getD []))) rfl (x := (.int .i64 0)) rfl ?_)
    have e1_ : readS p la lo n = ((getB lo n).getD []) := by rw [readS, if_neg (ne_true_of_eq_false h8_n_n), if_pos (Classical.not_not.1 h14), if_pos h19]
    have e2_ : readE p la n = 0 := by rw [readE, if_neg (ne_true_of_eq_false h8_n_n), if_pos (Classical.not_not.1 h14)]
    exact ⟨by rw [e1_, e2_], hH12⟩
   ·
    refine wp_skip ?_
    refine zc (hK16 _ _ ?_)
    refine wp_seq_k fun K21 hK21 => ?_
    refine zb ?_
    refine za (zd (v := (.pointer (some ⟨db, 0, none⟩))) rfl ?_)
    refine za (zl rfl ?_)
    refine za (zg (k := 1) (fun _ => by kernel_rfl) rfl ?_)
    refine za (zj (v := v) Tryz.underlying46 rfl rfl hH12 (zh 2 rfl) (CellsAt.one rfl) ?_)
    refine za (zd (v := (.int .i64 n)) rfl ?_)
    obtain ⟨x25, hx26⟩ : ∃ x_, la[(n).toNat]? = some x_ := zM (by omega)
    refine za (yc Tryz.underlying46 ti9 rfl ho.sl rfl (by omega) hx26 fun b22 o23 hc24 => ?_)
    refine za (zj (v := (S x25)) Tryz.underlying9 rfl rfl hH12 (zh 0 rfl) hc24 ?_)
    refine za (ze (v := (S x25)) rfl ?_)
    refine za (ze (v := (.int .i64 0)) rfl ?_)
    refine zf ?_
    refine zc (hK21 _ _ ?_)
    refine wp_ret ?_
    refine zV Tryz.results188  (v := (S x25)) rfl (x := (.int .i64 0)) rfl ?_
    have e1_ : readS p la lo n = x25 := by rw [readS, if_neg (ne_true_of_eq_false h8_n_n), if_pos (Classical.not_not.1 h14), if_neg (ne_true_of_eq_false h19)]; rw [hx26]; rfl
    have e2_ : readE p la n = 0 := by rw [readE, if_neg (ne_true_of_eq_false h8_n_n), if_pos (Classical.not_not.1 h14)]
    exact ⟨by rw [e1_, e2_], hH12⟩
set_option maxHeartbeats 4000000 in
theorem crash_i {E w : World} {R hL : List Hp} {pb db mb c : Nat} {p : Pw} {v : Value} {es : Array MapEntry} {la : List Bs} {lo : List (Int × Bs)} (hH : Has E w [hL, [Hp.one mb (.map es c)], [Hp.one db (.cells #[(.pointer (some ⟨pb, 0, none⟩)), v, (.map (some mb))] 150 (0, 0))], [Hp.one pb (.cells #[(.bool p.off), (.bool p.armed), (.int .i64 p.left), (.int .i64 p.uses)] 145 (0, 0))], R]) (ho : Own 9 1 v la.length (la.map sV) hL) (hm : MapV iV sV es c lo) (hlo : LoOk lo la.length) {vk : Value} {keep : List Int} (hk_ : Ints R vk keep) :
  Calls Tryz.prog 26 #[(.pointer (some ⟨db, 0, none⟩)), vk] w fun e w' => ∃ hL' es' c', e = .returned (.tuple #[]) ∧ Own 9 1 v (settleS lo la keep).length ((settleS lo la keep).map sV) hL' ∧ MapV iV sV es' c' ([] : List (Int × Bs)) ∧ Has E w' [hL', [Hp.one mb (.map es' c')], [Hp.one db (.cells #[(.pointer (some ⟨pb, 0, none⟩)), v, (.map (some mb))] 150 (0, 0))], [Hp.one pb (.cells #[(.bool (backS p).off), (.bool (backS p).armed), (.int .i64 (backS p).left), (.int .i64 (backS p).uses)] 145 (0, 0))], R] := by
 refine zs (args := [(.pointer (some ⟨db, 0, none⟩)), vk]) Tryz.func26 rfl Tryz.ntmps26 (by simp) ?_
 refine wp_seq_k fun K1 hK1 => ?_
 refine zb ?_
 refine za (zd (v := (.pointer (some ⟨db, 0, none⟩))) rfl ?_)
 refine za (o_pnnil (p := some _) Tryz.underlying25 rfl rfl ?_)
 refine zf ?_
 refine zc (hK1 _ _ ?_)
 refine zN rfl rfl ?_
 refine wp_seq_k fun K2 hK2 => ?_
 refine zb ?_
 refine za (zd (v := (.pointer (some ⟨db, 0, none⟩))) rfl ?_)
 refine za (zl rfl ?_)
 refine za (zg (k := 0) (fun _ => by kernel_rfl) rfl ?_)
 refine za (zj (v := (.pointer (some ⟨pb, 0, none⟩))) Tryz.underlying97 rfl rfl hH (zh 2 rfl) (CellsAt.one rfl) ?_)
 refine za (zk (vs := #[(.pointer (some ⟨pb, 0, none⟩))]) ca113 rfl (zF rfl) (pback_c (p := p) (hH.front 3 rfl).all1) ?_)
 rintro _ w5 ⟨rfl, hX3⟩
 refine ⟨_, rfl, ?_⟩
 have hH4 : Has E w5 [[Hp.one pb (.cells #[(.bool (backS p).off), (.bool (backS p).armed), (.int .i64 (backS p).left), (.int .i64 (backS p).uses)] 145 (0, 0))], hL, [Hp.one mb (.map es c)], [Hp.one db (.cells #[(.pointer (some ⟨pb, 0, none⟩)), v, (.map (some mb))] 150 (0, 0))], R] := hX3.of_all1
 refine zf ?_
 refine zc (hK2 _ _ ?_)
 refine zb ?_
 refine za (zd (v := (.pointer (some ⟨db, 0, none⟩))) rfl ?_)
 refine za (zd (v := vk) rfl ?_)
 refine za (zk (vs := #[(.pointer (some ⟨db, 0, none⟩)), vk]) ca114 rfl (zI rfl rfl) (settle_i (p := (backS p)) (la := la) (lo := lo) (((hH4.front 3 rfl).front 3 rfl).front 3 rfl).all4 ho hm hlo (keep := keep) (hk_.mono (zh 0 rfl))) ?_)
 rintro _ w13 ⟨s6, es8, c9, rfl, ho7, hm10, hX11⟩
 refine ⟨_, rfl, ?_⟩
 have hH12 : Has E w13 [s6, [Hp.one mb (.map es8 c9)], [Hp.one db (.cells #[(.pointer (some ⟨pb, 0, none⟩)), v, (.map (some mb))] 150 (0, 0))], [Hp.one pb (.cells #[(.bool (backS p).off), (.bool (backS p).armed), (.int .i64 (backS p).left), (.int .i64 (backS p).uses)] 145 (0, 0))], R] := hX11.of_all4
 refine zf ?_
 refine c_end0 Tryz.results26  ?_
 exact ⟨_, _, _, rfl, ho7, hm10, hH12⟩
set_option maxHeartbeats 4000000 in
theorem put_i {E w : World} {R hL : List Hp} {pb db mb c : Nat} {p : Pw} {v : Value} {es : Array MapEntry} {la : List Bs} {lo : List (Int × Bs)} (hH : Has E w [hL, [Hp.one mb (.map es c)], [Hp.one db (.cells #[(.pointer (some ⟨pb, 0, none⟩)), v, (.map (some mb))] 150 (0, 0))], [Hp.one pb (.cells #[(.bool p.off), (.bool p.armed), (.int .i64 p.left), (.int .i64 p.uses)] 145 (0, 0))], R]) (ho : Own 9 1 v la.length (la.map sV) hL) (hm : MapV iV sV es c lo) (n : Int) (s : Bs) (hs : s.length ≤ 1000000000) :
  Calls Tryz.prog 14 #[(.pointer (some ⟨db, 0, none⟩)), (.int .i64 n), (S s)] w fun e w' => ∃ hL' es' c', e = .returned (.int .i64 (putE la.length n s)) ∧ Own 9 1 v (putA la n s).length ((putA la n s).map sV) hL' ∧ MapV iV sV es' c' (putO la.length lo n s) ∧ Has E w' [hL', [Hp.one mb (.map es' c')], [Hp.one db (.cells #[(.pointer (some ⟨pb, 0, none⟩)), v, (.map (some mb))] 150 (0, 0))], [Hp.one pb (.cells #[(.bool p.off), (.bool p.armed), (.int .i64 p.left), (.int .i64 p.uses)] 145 (0, 0))], R] := by
 refine zs (args := [(.pointer (some ⟨db, 0, none⟩)), (.int .i64 n), (S s)]) Tryz.func14 rfl Tryz.ntmps14 (by simp) ?_
 refine wp_seq_k fun K1 hK1 => ?_
 refine zb ?_
 refine za (ze (v := (.int .i64 0)) rfl ?_)
 refine zf ?_
 refine zc (hK1 _ _ ?_)
 refine wp_seq_k fun K2 hK2 => ?_
 refine zb ?_
 refine za (zd (v := (S s)) rfl ?_)
 refine za (zu (ps := #[(0, (S s))]) (cells := #[(S s)]) Tryz.underlying46 ti9 (by decide) (parts1 rfl) (by kernel_rfl) hH fun b3 w4 hH5 => ?_)
 have hfl6 : ([s] : List Bs).flatten = s := by simp
 refine za (zk (vs := #[(.slice (some ⟨b3, 0, none⟩) 1 1)]) ca92 rfl (zF rfl) ((by have h_ := filled_c hH5.all (l := [s]) ((zW (f := sV) (l := [s]) rfl rfl (by simp)).mono (zh 0 rfl)) (by simp) (by simp; omega); rwa [hfl6] at h_)) ?_)
 rintro _ w9 ⟨rfl, hX7⟩
 refine ⟨_, rfl, ?_⟩
 have hH8 := hX7.of_all
 refine za (zd (v := (.tuple #[(S (if s.length ≤ 64 then fillS s else [])), (.bool (decide (s.length ≤ 64)))])) rfl ?_)
 refine za (zp (v := (S (if s.length ≤ 64 then fillS s else []))) rfl rfl ?_)
 refine za (zp (v := (.bool (decide (s.length ≤ 64)))) rfl rfl ?_)
 refine za (ze (v := (S (if s.length ≤ 64 then fillS s else []))) rfl ?_)
 refine za (ze (v := (.bool (decide (s.length ≤ 64)))) rfl ?_)
 refine zf ?_
 refine zc (hK2 _ _ ?_)
 refine wp_seq_k fun K10 hK10 => ?_
 refine wp_seq_k fun K11 hK11 => ?_
 refine zb ?_
 refine za (zd (v := (.bool (decide (s.length ≤ 64)))) rfl ?_)
 refine za (o_not2 (b := decide (s.length ≤ 64)) (b' := decide (¬ (s.length ≤ 64))) rfl not_dec ?_)
 refine za (zd (v := (.bool (decide (¬ (s.length ≤ 64))))) rfl ?_)
 by_cases h12 : ¬ (s.length ≤ 64)
 ·
  refine zi (b' := true) 17 rfl (cT h12) rfl ?_
  refine zi (b' := true) 17 rfl (cT h12) rfl ?_
  refine zi (b' := true) 17 rfl (cT h12) rfl ?_
  refine zi (b' := true) 17 rfl (cT h12) rfl ?_
  refine za (zo (u := (.bool true)) ((rfl : _ = _).trans (cT h12)) rfl ?_)
  refine zf ?_
  refine zc (hK11 _ _ ?_)
  refine zN rfl rfl ?_
  refine wp_seq_k fun K13 hK13 => ?_
  refine zb ?_
  refine za (ze (v := (.int .i64 1)) rfl ?_)
  refine zf ?_
  refine zc (hK13 _ _ ?_)
  refine wp_ret ?_
  refine zv (zq Tryz.results14  (v := (.int .i64 1)) rfl ?_)
  have hH14 : Has E w9 [hL, [Hp.one mb (.map es c)], [Hp.one db (.cells #[(.pointer (some ⟨pb, 0, none⟩)), v, (.map (some mb))] 150 (0, 0))], [Hp.one pb (.cells #[(.bool p.off), (.bool p.armed), (.int .i64 p.left), (.int .i64 p.uses)] 145 (0, 0))], R] := (((((hH8.front 5 rfl).front 5 rfl).front 5 rfl).front 5 rfl).front 5 rfl).first 5 rfl
  exact ⟨_, _, _, by rw [putE, if_neg (fun g => h12 g.1)], by rw [putA, if_neg (fun g => h12 g.1)]; exact ho, by rw [putO, if_neg (fun g => h12 g.1)]; exact hm, hH14⟩
 ·
  refine zn 17 rfl (cF h12) (zd (v := (.pointer (some ⟨db, 0, none⟩))) rfl ?_)
  refine zn 17 rfl (cF h12) (zd (v := (.int .i64 n)) rfl ?_)
  refine zn 17 rfl (cF h12) (zk (vs := #[(.pointer (some ⟨db, 0, none⟩)), (.int .i64 n)]) ca93 rfl (zI rfl rfl) (has_i (p := p) (la := la) (lo := lo) ((((hH8.front 4 rfl).front 4 rfl).front 4 rfl).front 4 rfl).all4 ho hm n) ?_)
  rintro _ w17 ⟨rfl, hX15⟩
  refine ⟨_, rfl, ?_⟩
  have hH16 : Has E w17 [hL, [Hp.one mb (.map es c)], [Hp.one db (.cells #[(.pointer (some ⟨pb, 0, none⟩)), v, (.map (some mb))] 150 (0, 0))], [Hp.one pb (.cells #[(.bool p.off), (.bool p.armed), (.int .i64 p.left), (.int .i64 p.uses)] 145 (0, 0))], [Hp.one b3 (.cells #[(S s)] 9 (0, 0))], R] := hX15.of_all4
  refine zn 17 rfl (cF h12) (o_not2 (b := decide (inS n la.length)) (b' := decide (¬ (inS n la.length))) rfl not_dec ?_)
  refine za (zm (u := (.bool (decide (¬ (inS n la.length))))) ((rfl : _ = _).trans (cF h12)) rfl ?_)
  refine zf ?_
  refine zc (hK11 _ _ ?_)
  refine zt rfl (fun h18 => ?_) (fun h18 => ?_)
  ·
   refine wp_seq_k fun K19 hK19 => ?_
   refine zb ?_
   refine za (ze (v := (.int .i64 1)) rfl ?_)
   refine zf ?_
   refine zc (hK19 _ _ ?_)
   refine wp_ret ?_
   refine zv (zq Tryz.results14  (v := (.int .i64 1)) rfl ?_)
   have hH20 : Has E w17 [hL, [Hp.one mb (.map es c)], [Hp.one db (.cells #[(.pointer (some ⟨pb, 0, none⟩)), v, (.map (some mb))] 150 (0, 0))], [Hp.one pb (.cells #[(.bool p.off), (.bool p.armed), (.int .i64 p.left), (.int .i64 p.uses)] 145 (0, 0))], R] := (((((hH16.front 5 rfl).front 4 rfl).front 4 rfl).front 4 rfl).front 4 rfl).first 5 rfl
   exact ⟨_, _, _, by rw [putE, if_neg (fun g => h18 g.2)], by rw [putA, if_neg (fun g => h18 g.2)]; exact ho, by rw [putO, if_neg (fun g => h18 g.2)]; exact hm, hH20⟩
  ·
   have hin_ : inS n la.length := Classical.not_not.1 h18
   unfold inS at hin_
   refine wp_skip ?_
   refine zc (hK10 _ _ ?_)
   refine wp_seq_k fun K21 hK21 => ?_
   refine zb ?_
   refine za (zd (v := (.pointer (some ⟨db, 0, none⟩))) rfl ?_)
   refine za (zl rfl ?_)
   refine za (zg (k := 1) (fun _ => by kernel_rfl) rfl ?_)
   refine za (zj (v := v) Tryz.underlying46 rfl rfl hH16 (zh 2 rfl) (CellsAt.one rfl) ?_)
   refine za (zd (v := (.int .i64 n)) rfl ?_)
   refine za (zd (v := (S (if s.length ≤ 64 then fillS s else []))) rfl ?_)
   refine za (o_ownAddr Tryz.underlying46 ti9 rfl ho rfl (by omega) (by first | omega | (simp only [List.length_append, List.length_cons, List.length_nil, List.length_set]; omega)) fun b22 ho23 => ?_)
   refine zB (o_ownStore (f := sV) (l := la) (a := (if s.length ≤ 64 then fillS s else [])) ti9 rfl rfl rfl ho23 (by first | omega | (simp only [List.length_append, List.length_cons, List.length_nil, List.length_set]; omega)) hH16 fun s24 w25 ho26 hH27 => ?_)
   refine zf ?_
   refine zc (hK21 _ _ ?_)
   refine wp_seq_k fun K28 hK28 => ?_
   refine zb ?_
   refine za (zd (v := (.pointer (some ⟨db, 0, none⟩))) rfl ?_)
   refine za (zl rfl ?_)
   refine za (zg (k := 2) (fun _ => by kernel_rfl) rfl ?_)
   refine za (zj (v := (.map (some mb))) Tryz.underlying148 rfl rfl hH27 (zh 2 rfl) (CellsAt.one rfl) ?_)
   refine za (zd (v := (.int .i64 n)) rfl ?_)
   refine zB (o_delete (gk := iV) (f := sV) (k := n) Tryz.underlying148 (key_int Tryz.underlying3) rfl rfl (hH27.front 1 rfl) hm fun es29 c30 w31 he32 hH33 => ?_)
   refine zf ?_
   refine zc (hK28 _ _ ?_)
   refine wp_seq_k fun K34 hK34 => ?_
   refine zb ?_
   refine za (ze (v := (.int .i64 0)) rfl ?_)
   refine zf ?_
   refine zc (hK34 _ _ ?_)
   refine wp_ret ?_
   refine zq Tryz.results14  (v := (.int .i64 0)) rfl ?_
   have hH35 : Has E w31 [s24, [Hp.one mb (.map es29 c30)], [Hp.one db (.cells #[(.pointer (some ⟨pb, 0, none⟩)), v, (.map (some mb))] 150 (0, 0))], [Hp.one pb (.cells #[(.bool p.off), (.bool p.armed), (.int .i64 p.left), (.int .i64 p.uses)] 145 (0, 0))], R] := (((((hH33.front 5 rfl).front 4 rfl).front 4 rfl).front 3 rfl).front 4 rfl).first 5 rfl
   exact ⟨_, _, _, by rw [putE, if_pos ⟨(Classical.not_not.1 h12), (Classical.not_not.1 h18)⟩], by rw [putA, if_pos ⟨(Classical.not_not.1 h12), (Classical.not_not.1 h18)⟩]; rw [if_pos (Classical.not_not.1 h12)] at ho26; exact ho26, by rw [putO, if_pos ⟨(Classical.not_not.1 h12), (Classical.not_not.1 h18)⟩]; exact he32, hH35⟩
end Go.Q
namespace Go.Q
open Go.Proofs
set_option linter.unusedVariables false
set_option maxRecDepth 100000
attribute [local irreducible] wpList OK Code.wp
def DevAt (pb : Nat) (sg : List Hp) (db : Nat) (la : List Bs) (lo : List (Int × Bs)) : Prop := ∃ v hL mb es c, sg = hL ++ ([Hp.one mb (.map es c)] ++ [Hp.one db (.cells #[(.pointer (some ⟨pb, 0, none⟩)), v, (.map (some mb))] 150 (0, 0))]) ∧ Own 9 1 v la.length (la.map sV) hL ∧ MapV iV sV es c lo
theorem sectors_d {E w : World} {R sg : List Hp} {pb db : Nat} {p : Pw} {la : List Bs} {lo : List (Int × Bs)} (hH : Has E w [sg, [Hp.one pb (.cells #[(.bool p.off), (.bool p.armed), (.int .i64 p.left), (.int .i64 p.uses)] 145 (0, 0))], R]) (hd : DevAt pb sg db la lo) :
  Calls Tryz.prog 85 #[(.pointer (some ⟨db, 0, none⟩))] w fun e w' => e = .returned (.int .i64 ((la.length : Nat) : Int)) ∧ Has E w' [sg, [Hp.one pb (.cells #[(.bool p.off), (.bool p.armed), (.int .i64 p.left), (.int .i64 p.uses)] 145 (0, 0))], R] := by
 obtain ⟨v, hL, mb, es, c, rfl, ho, hm⟩ := hd
 exact (sectors_i hH.open3 ho hm ).mono fun e w' ⟨he, hH'⟩ => ⟨he, hH'.close3⟩
theorem don_d {E w : World} {R sg : List Hp} {pb db : Nat} {p : Pw} {la : List Bs} {lo : List (Int × Bs)} (hH : Has E w [sg, [Hp.one pb (.cells #[(.bool p.off), (.bool p.armed), (.int .i64 p.left), (.int .i64 p.uses)] 145 (0, 0))], R]) (hd : DevAt pb sg db la lo) :
  Calls Tryz.prog 186 #[(.pointer (some ⟨db, 0, none⟩))] w fun e w' => e = .returned (.bool (!p.off)) ∧ Has E w' [sg, [Hp.one pb (.cells #[(.bool p.off), (.bool p.armed), (.int .i64 p.left), (.int .i64 p.uses)] 145 (0, 0))], R] := by
 obtain ⟨v, hL, mb, es, c, rfl, ho, hm⟩ := hd
 exact (don_i hH.open3 ho hm ).mono fun e w' ⟨he, hH'⟩ => ⟨he, hH'.close3⟩
theorem write_d {E w : World} {R sg : List Hp} {pb db : Nat} {p : Pw} {la : List Bs} {lo : List (Int × Bs)} (hH : Has E w [sg, [Hp.one pb (.cells #[(.bool p.off), (.bool p.armed), (.int .i64 p.left), (.int .i64 p.uses)] 145 (0, 0))], R]) (hd : DevAt pb sg db la lo) (hp : PwOk p) (hla : la.length ≤ 4096) (n : Int) {vd : Value} {l : List Bs} (hdd : Sl R 1 vd l.length (l.map sV)) (hn : l.length ≤ 1000000) (hl : l.flatten.length ≤ 1000000000) :
  Calls Tryz.prog 122 #[(.pointer (some ⟨db, 0, none⟩)), (.int .i64 n), vd] w fun e w' => ∃ sg', e = .returned (.int .i64 (writeE p la.length n l.flatten)) ∧ DevAt pb sg' db la (writeS p la.length lo n l.flatten) ∧ Has E w' [sg', [Hp.one pb (.cells #[(.bool (useS p).off), (.bool (useS p).armed), (.int .i64 (useS p).left), (.int .i64 (useS p).uses)] 145 (0, 0))], R] := by
 obtain ⟨v, hL, mb, es, c, rfl, ho, hm⟩ := hd
 exact (write_i hH.open3 ho hm hp hla n hdd hn hl).mono fun e w' ⟨es', c', he, hm', hH'⟩ => ⟨_, he, ⟨v, hL, mb, es', c', rfl, ho, hm'⟩, hH'.close3⟩
theorem sync_d {E w : World} {R sg : List Hp} {pb db : Nat} {p : Pw} {la : List Bs} {lo : List (Int × Bs)} (hH : Has E w [sg, [Hp.one pb (.cells #[(.bool p.off), (.bool p.armed), (.int .i64 p.left), (.int .i64 p.uses)] 145 (0, 0))], R]) (hd : DevAt pb sg db la lo) (hp : PwOk p) (hla : la.length ≤ 4096) (hlo : LoOk lo la.length) :
  Calls Tryz.prog 32 #[(.pointer (some ⟨db, 0, none⟩))] w fun e w' => ∃ sg', e = .returned (.int .i64 (syncE p)) ∧ DevAt pb sg' db (syncA p la lo) (syncO p lo) ∧ Has E w' [sg', [Hp.one pb (.cells #[(.bool (useS p).off), (.bool (useS p).armed), (.int .i64 (useS p).left), (.int .i64 (useS p).uses)] 145 (0, 0))], R] := by
 obtain ⟨v, hL, mb, es, c, rfl, ho, hm⟩ := hd
 exact (sync_i hH.open3 ho hm hp hla hlo).mono fun e w' ⟨hL', es', c', he, ho', hm', hH'⟩ => ⟨_, he, ⟨v, hL', mb, es', c', rfl, ho', hm'⟩, hH'.close3⟩
theorem crash_d {E w : World} {R sg : List Hp} {pb db : Nat} {p : Pw} {la : List Bs} {lo : List (Int × Bs)} (hH : Has E w [sg, [Hp.one pb (.cells #[(.bool p.off), (.bool p.armed), (.int .i64 p.left), (.int .i64 p.uses)] 145 (0, 0))], R]) (hd : DevAt pb sg db la lo) (hlo : LoOk lo la.length) {vk : Value} {keep : List Int} (hk_ : Ints R vk keep) :
  Calls Tryz.prog 26 #[(.pointer (some ⟨db, 0, none⟩)), vk] w fun e w' => ∃ sg', e = .returned (.tuple #[]) ∧ DevAt pb sg' db (settleS lo la keep) [] ∧ Has E w' [sg', [Hp.one pb (.cells #[(.bool (backS p).off), (.bool (backS p).armed), (.int .i64 (backS p).left), (.int .i64 (backS p).uses)] 145 (0, 0))], R] := by
 obtain ⟨v, hL, mb, es, c, rfl, ho, hm⟩ := hd
 exact (crash_i hH.open3 ho hm hlo hk_).mono fun e w' ⟨hL', es', c', he, ho', hm', hH'⟩ => ⟨_, he, ⟨v, hL', mb, es', c', rfl, ho', hm'⟩, hH'.close3⟩
theorem read_d {E w : World} {R sg : List Hp} {pb db : Nat} {p : Pw} {la : List Bs} {lo : List (Int × Bs)} (hH : Has E w [sg, [Hp.one pb (.cells #[(.bool p.off), (.bool p.armed), (.int .i64 p.left), (.int .i64 p.uses)] 145 (0, 0))], R]) (hd : DevAt pb sg db la lo) (n : Int) :
  Calls Tryz.prog 188 #[(.pointer (some ⟨db, 0, none⟩)), (.int .i64 n)] w fun e w' => e = .returned (.tuple #[S (readS p la lo n), .int .i64 (readE p la n)]) ∧ Has E w' [sg, [Hp.one pb (.cells #[(.bool p.off), (.bool p.armed), (.int .i64 p.left), (.int .i64 p.uses)] 145 (0, 0))], R] := by
 obtain ⟨v, hL, mb, es, c, rfl, ho, hm⟩ := hd
 exact (read_i hH.open3 ho hm n).mono fun e w' ⟨he, hH'⟩ => ⟨he, hH'.close3⟩
theorem put_d {E w : World} {R sg : List Hp} {pb db : Nat} {p : Pw} {la : List Bs} {lo : List (Int × Bs)} (hH : Has E w [sg, [Hp.one pb (.cells #[(.bool p.off), (.bool p.armed), (.int .i64 p.left), (.int .i64 p.uses)] 145 (0, 0))], R]) (hd : DevAt pb sg db la lo) (n : Int) (s : Bs) (hs : s.length ≤ 1000000000) :
  Calls Tryz.prog 14 #[(.pointer (some ⟨db, 0, none⟩)), (.int .i64 n), (S s)] w fun e w' => ∃ sg', e = .returned (.int .i64 (putE la.length n s)) ∧ DevAt pb sg' db (putA la n s) (putO la.length lo n s) ∧ Has E w' [sg', [Hp.one pb (.cells #[(.bool p.off), (.bool p.armed), (.int .i64 p.left), (.int .i64 p.uses)] 145 (0, 0))], R] := by
 obtain ⟨v, hL, mb, es, c, rfl, ho, hm⟩ := hd
 exact (put_i hH.open3 ho hm n s hs).mono fun e w' ⟨hL', es', c', he, ho', hm', hH'⟩ => ⟨_, he, ⟨v, hL', mb, es', c', rfl, ho', hm'⟩, hH'.close3⟩
set_option maxHeartbeats 4000000 in
theorem new_nil {E w : World} {R : List Hp} (hH : Has E w [R]) {n : Nat} (hn : 1 ≤ n ∧ n ≤ 4096) :
  Calls Tryz.prog 12 #[(.pointer none), (.int .i64 (n : Int))] w fun e w' => ∃ db pb sg, e = .returned (.pointer (some ⟨db, 0, none⟩)) ∧ DevAt pb sg db (List.replicate n blankS) [] ∧ Has E w' [sg, [Hp.one pb (.cells #[(.bool false), (.bool false), (.int .i64 0), (.int .i64 0)] 145 (0, 0))], R] := by
 refine zs (args := [(.pointer none), (.int .i64 (n : Int))]) Tryz.func12 rfl Tryz.ntmps12 (by simp) ?_
 refine wp_seq_k fun K1 hK1 => ?_
 refine zb ?_
 refine za (ze (v := (.pointer none)) rfl ?_)
 refine zf ?_
 refine zc (hK1 _ _ ?_)
 refine wp_seq_k fun K2 hK2 => ?_
 refine wp_seq_k fun K3 hK3 => ?_
 refine zb ?_
 refine za (zd (v := (.int .i64 (n : Int))) rfl ?_)
 refine za (zL (a := (n : Int)) (b := 1) rfl rfl ?_)
 refine za (zd (v := (.bool (decide ((n : Int) < 1)))) rfl ?_)
 by_cases h4 : (n : Int) < 1
 ·
  exfalso; omega
 ·
  refine zn 7 rfl (cF h4) (zd (v := (.int .i64 (n : Int))) rfl ?_)
  refine zn 7 rfl (cF h4) (o_gtr (a := (n : Int)) (b := 4096) rfl rfl ?_)
  refine za (zm (u := (.bool (decide (4096 < (n : Int))))) ((rfl : _ = _).trans (cF h4)) rfl ?_)
  refine zf ?_
  refine zc (hK3 _ _ ?_)
  refine zt rfl (fun h5 => ?_) (fun h5 => ?_)
  ·
   exfalso; omega
  ·
   refine wp_skip ?_
   refine zc (hK2 _ _ ?_)
   refine wp_seq_k fun K6 hK6 => ?_
   refine wp_seq_k fun K7 hK7 => ?_
   refine zb ?_
   refine za (zd (v := (.pointer none)) rfl ?_)
   refine za (o_pnil (p := none) Tryz.underlying97 rfl rfl ?_)
   refine zf ?_
   refine zc (hK7 _ _ ?_)
   refine zN rfl rfl ?_
   refine zb ?_
   refine za (zK (v := (.agg #[(.bool false), (.bool false), (.int .i64 0), (.int .i64 0)])) (fun _ => by kernel_rfl) ?_)
   refine za (o_box (cs := #[(.bool false), (.bool false), (.int .i64 0), (.int .i64 0)]) rfl rfl hH fun b8 w9 hH10 => ?_)
   refine za (ze (v := (.pointer (some ⟨b8, 0, none⟩))) rfl ?_)
   refine zf ?_
   refine zc (hK6 _ _ ?_)
   refine wp_seq_k fun K11 hK11 => ?_
   refine zb ?_
   refine za (zd (v := (.pointer (some ⟨b8, 0, none⟩))) rfl ?_)
   refine za (zk (vs := #[]) ca87 rfl (args0) (blank_c hH10.all) ?_)
   rintro _ w14 ⟨rfl, hX12⟩
   refine ⟨_, rfl, ?_⟩
   have hH13 := hX12.of_all
   refine za (zu (ps := #[(0, (S blankS))]) (cells := #[(S blankS)]) Tryz.underlying46 ti9 (by decide) (parts1 rfl) (by kernel_rfl) hH13 fun b15 w16 hH17 => ?_)
   refine za (zd (v := (.int .i64 (n : Int))) rfl ?_)
   refine za (zk (vs := #[(.slice (some ⟨b15, 0, none⟩) 1 1), (.int .i64 (n : Int))]) ca86 rfl (zI rfl rfl) (srepeat_c hH17.all (s := blankS) ((zW (f := sV) (l := [blankS]) rfl rfl (by simp)).mono (zh 0 rfl)) (n := n) (by omega)) ?_)
   rintro _ w23 ⟨v18, s19, rfl, ho20, hX21⟩
   refine ⟨_, rfl, ?_⟩
   have hH22 : Has E w23 [s19, [Hp.one b15 (.cells #[(S blankS)] 9 (0, 0))], [Hp.one b8 (.cells #[(.bool false), (.bool false), (.int .i64 0), (.int .i64 0)] 145 (0, 0))], R] := hX21.of_all1
   obtain ⟨p_, c_, rfl⟩ := (Own.sl ho20).form
   refine za (o_makeMap hH22 fun m24 w25 hH26 => ?_)
   refine za (zK (v := (.agg #[(.pointer (some ⟨b8, 0, none⟩)), (.slice p_ (List.replicate n blankS).length c_), (.map (some m24))])) (fun _ => by kernel_rfl) ?_)
   refine za (o_box (cs := #[(.pointer (some ⟨b8, 0, none⟩)), (.slice p_ (List.replicate n blankS).length c_), (.map (some m24))]) rfl rfl hH26 fun b27 w28 hH29 => ?_)
   refine za (ze (v := (.pointer (some ⟨b27, 0, none⟩))) rfl ?_)
   refine zf ?_
   refine zc (hK11 _ _ ?_)
   refine wp_ret ?_
   refine zq Tryz.results12  (v := (.pointer (some ⟨b27, 0, none⟩))) rfl ?_
   have hH30 : Has E w28 [s19, [Hp.one m24 (.map #[] 0)], [Hp.one b27 (.cells #[(.pointer (some ⟨b8, 0, none⟩)), (.slice p_ (List.replicate n blankS).length c_), (.map (some m24))] 150 (0, 0))], [Hp.one b8 (.cells #[(.bool false), (.bool false), (.int .i64 0), (.int .i64 0)] 145 (0, 0))], R] := (((((hH29.front 5 rfl).front 5 rfl).front 2 rfl).front 3 rfl).front 4 rfl).first 5 rfl
   exact ⟨_, _, _, rfl, ⟨_, _, _, _, _, rfl, ho20, MapV.nil⟩, hH30.close3⟩
end Go.Q
namespace Go.Q
open Go.Proofs
set_option linter.unusedVariables false
set_option maxRecDepth 100000
attribute [local irreducible] wpList OK Code.wp
theorem dv_wr {E w : World} {R sg : List Hp} {pb db : Nat} {d : Dv} (hH : Has E w [sg, [Hp.one pb (.cells #[(.bool d.p.off), (.bool d.p.armed), (.int .i64 d.p.left), (.int .i64 d.p.uses)] 145 (0, 0))], R]) (hd : DevAt pb sg db d.la d.lo) (hp : PwOk d.p) (h4 : d.la.length ≤ 4096) (n : Int) {vd : Value} {l : List Bs} (hv : Sl R 1 vd l.length (l.map sV)) {s : Bs} (hs : l.flatten = s) (hn : l.length ≤ 1000000) (hl : s.length ≤ 1000000000) :
  Calls Tryz.prog 122 #[.pointer (some ⟨db, 0, none⟩), .int .i64 n, vd] w fun e w' => ∃ sg', e = .returned (.int .i64 (d.wrE n s)) ∧ DevAt pb sg' db (d.wr n s).la (d.wr n s).lo ∧ Has E w' [sg', [Hp.one pb (.cells #[(.bool (d.wr n s).p.off), (.bool (d.wr n s).p.armed), (.int .i64 (d.wr n s).p.left), (.int .i64 (d.wr n s).p.uses)] 145 (0, 0))], R] := by
 subst hs
 exact write_d hH hd hp h4 n hv hn hl
theorem dv_sy {E w : World} {R sg : List Hp} {pb db : Nat} {d : Dv} (hH : Has E w [sg, [Hp.one pb (.cells #[(.bool d.p.off), (.bool d.p.armed), (.int .i64 d.p.left), (.int .i64 d.p.uses)] 145 (0, 0))], R]) (hd : DevAt pb sg db d.la d.lo) (hp : PwOk d.p) (h4 : d.la.length ≤ 4096) (hlk : LoOk d.lo d.la.length) :
  Calls Tryz.prog 32 #[.pointer (some ⟨db, 0, none⟩)] w fun e w' => ∃ sg', e = .returned (.int .i64 d.syE) ∧ DevAt pb sg' db d.sy.la d.sy.lo ∧ Has E w' [sg', [Hp.one pb (.cells #[(.bool d.sy.p.off), (.bool d.sy.p.armed), (.int .i64 d.sy.p.left), (.int .i64 d.sy.p.uses)] 145 (0, 0))], R] := sync_d hH hd hp h4 hlk
theorem dv_cr {E w : World} {R sg : List Hp} {pb db : Nat} {d : Dv} (hH : Has E w [sg, [Hp.one pb (.cells #[(.bool d.p.off), (.bool d.p.armed), (.int .i64 d.p.left), (.int .i64 d.p.uses)] 145 (0, 0))], R]) (hd : DevAt pb sg db d.la d.lo) (hlk : LoOk d.lo d.la.length) {vk : Value} {keep : List Int} (hk_ : Ints R vk keep) :
  Calls Tryz.prog 26 #[.pointer (some ⟨db, 0, none⟩), vk] w fun e w' => ∃ sg', e = .returned (.tuple #[]) ∧ DevAt pb sg' db (d.cr keep).la (d.cr keep).lo ∧ Has E w' [sg', [Hp.one pb (.cells #[(.bool (d.cr keep).p.off), (.bool (d.cr keep).p.armed), (.int .i64 (d.cr keep).p.left), (.int .i64 (d.cr keep).p.uses)] 145 (0, 0))], R] := crash_d hH hd hlk hk_
theorem dv_syN {E w : World} {R sg : List Hp} {pb db : Nat} {d : Dv} (hH : Has E w [sg, [Hp.one pb (.cells #[(.bool d.p.off), (.bool d.p.armed), (.int .i64 d.p.left), (.int .i64 d.p.uses)] 145 (0, 0))], R]) (hd : DevAt pb sg db d.la d.lo) (hp : PwOk d.p) (h4 : d.la.length ≤ 4096) (hlk : LoOk d.lo d.la.length) :
  Calls Tryz.prog 32 #[.pointer (some ⟨db, 0, none⟩)] w fun e w' => ∃ sg', e = .returned (.int .i64 d.syE) ∧ DevAt pb sg' db d.syN.la d.syN.lo ∧ Has E w' [sg', [Hp.one pb (.cells #[(.bool d.syN.p.off), (.bool d.syN.p.armed), (.int .i64 d.syN.p.left), (.int .i64 d.syN.p.uses)] 145 (0, 0))], R] := by
 rw [← sy_eq hlk]
 exact dv_sy hH hd hp h4 hlk
end Go.Q
namespace Go.Q
open Go.Proofs
set_option linter.unusedVariables false
set_option maxRecDepth 100000
attribute [local irreducible] wpList OK Code.wp
set_option maxHeartbeats 4000000 in
theorem of2_c {E w : World} {R : List Hp} (hH : Has E w [R]) (hg : CellsAt R 0 0 nibV) {v : Value} {l : List (List UInt8)} (hv : Sl R 1 v l.length (l.map sV)) (hlb : ∀ x ∈ l, x.length ≤ 9223372036854775807) :
  Calls Tryz.prog 262 #[v] w fun e w' => e = .returned (.int .u32 ((crcS l.flatten).toNat : Int)) ∧ Has E w' [R] := by
 have hn := hv.le
 refine zs (args := [v]) Tryz.func262 rfl Tryz.ntmps262 (by simp) ?_
 refine wp_seq_k fun K1 hK1 => ?_
 refine zb ?_
 refine za (ze (v := (.int .u32 0)) rfl ?_)
 refine zf ?_
 refine zc (hK1 _ _ ?_)
 refine wp_seq_k fun K2 hK2 => ?_
 refine zb ?_
 refine za (ze (v := (.int .u32 4294967295)) rfl ?_)
 refine zf ?_
 refine zc (hK2 _ _ ?_)
 refine wp_seq_k fun K3 hK3 => ?_
 refine wp_seq_k fun K4 hK4 => ?_
 refine zb ?_
 refine za (zd (v := v) rfl ?_)
 refine za (zY Tryz.underlying46 rfl hv ?_)
 refine za (zd (v := (.int .i64 0)) rfl ?_)
 refine zf ?_
 refine zc (hK4 _ _ ?_)
 refine wp_block ?_
 let I6 : Nat → (Nat → Value) → World → Prop := fun n__ r__ w__ => ∃ (k : Nat) (r : BitVec 32), n__ = l.length - k ∧ Has E w__ [R] ∧ (k ≤ l.length) ∧ (r = crcF (4294967295#32) (l.take k).flatten) ∧ r__ 0 = v ∧ r__ 2 = (.int .u32 0) ∧ r__ 3 = (.int .u32 (r.toNat : Int)) ∧ r__ 7 = v ∧ r__ 8 = (.int .i64 ((l.length : Nat) : Int)) ∧ r__ 9 = (.int .i64 (k : Int))
 refine zT I6 _ ⟨0, (4294967295#32), rfl, hH, Nat.zero_le _, rfl, rfl, rfl, rfl, rfl, rfl, rfl⟩ ?_
 rintro n_ r9 w7 ⟨k, r, rfl, hH8, hk, hr, e5_0, e5_2, e5_3, e5_7, e5_8, e5_9⟩
 refine wp_seq_k fun K10 hK10 => ?_
 refine zb ?_
 refine za (zL (a := (k : Int)) (b := ((l.length : Nat) : Int)) e5_9 e5_8 ?_)
 refine zf ?_
 refine zc (hK10 _ _ ?_)
 refine wp_seq_k fun K11 hK11 => ?_
 refine zt rfl (fun h12 => ?_) (fun h12 => ?_)
 ·
  refine wp_skip ?_
  refine zc (hK11 _ _ ?_)
  refine wp_seq_k fun K13 hK13 => ?_
  refine wp_block ?_
  refine wp_seq_k fun K14 hK14 => ?_
  refine zb ?_
  obtain ⟨x18, hx19⟩ : ∃ x_, l[((k : Int)).toNat]? = some x_ := zM (by omega)
  refine za (yc Tryz.underlying46 ti9 e5_7 hv e5_9 (by omega) hx19 fun b15 o16 hc17 => ?_)
  refine za (zj (v := (S x18)) Tryz.underlying9 rfl rfl hH8 (zh 0 rfl) hc17 ?_)
  refine za (ze (v := (S x18)) rfl ?_)
  refine zf ?_
  refine zc (hK14 _ _ ?_)
  refine wp_seq_k fun K20 hK20 => ?_
  refine zb ?_
  refine za (zd (v := (S x18)) rfl ?_)
  refine za (yb Tryz.underlying9 rfl ?_)
  refine za (zd (v := (.int .i64 0)) rfl ?_)
  refine zf ?_
  refine zc (hK20 _ _ ?_)
  refine wp_block ?_
  have hxl := hlb x18 (List.mem_of_getElem? hx19)
  let I22 : Nat → (Nat → Value) → World → Prop := fun n__ r__ w__ => ∃ (j : Nat) (r2 : BitVec 32), n__ = x18.length - j ∧ Has E w__ [R] ∧ (j ≤ x18.length) ∧ (r2 = crcF r (x18.take j)) ∧ r__ 0 = v ∧ r__ 2 = (.int .u32 0) ∧ r__ 3 = (.int .u32 (r2.toNat : Int)) ∧ r__ 5 = (S x18) ∧ r__ 7 = v ∧ r__ 8 = (.int .i64 ((l.length : Nat) : Int)) ∧ r__ 9 = (.int .i64 (k : Int)) ∧ r__ 10 = (.bool (decide ((k : Int) < ((l.length : Nat) : Int)))) ∧ r__ 14 = (.int .i64 (x18.length : Int)) ∧ r__ 15 = (.int .i64 (j : Int))
  refine zT I22 _ ⟨0, r, rfl, hH8, Nat.zero_le _, rfl, e5_0, e5_2, e5_3, rfl, e5_7, e5_8, e5_9, rfl, rfl, rfl⟩ ?_
  rintro n_ r25 w23 ⟨j, r2, rfl, hH24, hj, hr2, e21_0, e21_2, e21_3, e21_5, e21_7, e21_8, e21_9, e21_10, e21_14, e21_15⟩
  refine wp_seq_k fun K26 hK26 => ?_
  refine zb ?_
  refine za (zL (a := (j : Int)) (b := (x18.length : Int)) e21_15 e21_14 ?_)
  refine zf ?_
  refine zc (hK26 _ _ ?_)
  refine wp_seq_k fun K27 hK27 => ?_
  refine zt rfl (fun h28 => ?_) (fun h28 => ?_)
  ·
   refine wp_skip ?_
   refine zc (hK27 _ _ ?_)
   refine wp_seq_k fun K29 hK29 => ?_
   refine wp_block ?_
   refine wp_seq_k fun K30 hK30 => ?_
   refine zb ?_
   refine za (zd (v := (.int .i64 (j : Int))) e21_15 ?_)
   refine za (ze (v := (.int .i64 (j : Int))) rfl ?_)
   refine zf ?_
   refine zc (hK30 _ _ ?_)
   refine wp_seq_k fun K31 hK31 => ?_
   refine zb ?_
   refine za (zd (v := (.int .u32 (r2.toNat : Int))) e21_3 ?_)
   refine za (zd (v := (S x18)) e21_5 ?_)
   refine za (zd (v := (.int .i64 (j : Int))) rfl ?_)
   obtain ⟨c32, hx33⟩ : ∃ x_, x18[((j : Int)).toNat]? = some x_ := zM (by omega)
   have c32_lt := c32.toNat_lt
   refine za (o_sidx Tryz.underlying9 rfl rfl (by omega) hx33 ?_)
   refine za (ya (c := ((b32 c32).toNat : Int)) Tryz.underlying5 Tryz.underlying349 rfl (conv_b32 _) ?_)
   refine za (o_xor (a := ((r2).toNat : Int)) (b := (((b32 c32)).toNat : Int)) (c := ((r2 ^^^ (b32 c32)).toNat : Int)) rfl rfl (xor32 r2 (b32 c32)) ?_)
   refine za (ze (v := (.int .u32 ((r2 ^^^ (b32 c32)).toNat : Int))) rfl ?_)
   refine zf ?_
   refine zc (hK31 _ _ ?_)
   refine wp_seq_k fun K34 hK34 => ?_
   refine zb ?_
   refine za (zd (v := (.int .u32 ((r2 ^^^ (b32 c32)).toNat : Int))) rfl ?_)
   refine za (o_shr (a := (((r2 ^^^ (b32 c32))).toNat : Int)) (b := ((4 : Nat) : Int)) (c := (((r2 ^^^ (b32 c32)) >>> 4).toNat : Int)) rfl rfl (by omega) (shr32 (r2 ^^^ (b32 c32)) 4 (by omega)) ?_)
   refine za (zd (v := (.int .u32 ((r2 ^^^ (b32 c32)).toNat : Int))) rfl ?_)
   refine za (o_and (a := (((r2 ^^^ (b32 c32))).toNat : Int)) (b := ((15#32).toNat : Int)) (c := (((r2 ^^^ (b32 c32)) &&& 15#32).toNat : Int)) rfl rfl (and32 (r2 ^^^ (b32 c32)) (15#32)) ?_)
   refine za (o_idxArr (i := ((r2 ^^^ (b32 c32)) &&& 15#32).toNat) Tryz.underlying406 ti349 rfl rfl (and15_lt _) ?_)
   refine za (zj (v := (.int .u32 ((nib ((r2 ^^^ (b32 c32)) &&& 15#32).toNat).toNat : Int))) Tryz.underlying349 rfl rfl hH24 (zh 0 rfl) (nib_at hg (r2 ^^^ (b32 c32))) ?_)
   refine za (o_xor (a := ((((r2 ^^^ (b32 c32)) >>> 4)).toNat : Int)) (b := (((nib ((r2 ^^^ (b32 c32)) &&& 15#32).toNat)).toNat : Int)) (c := ((((r2 ^^^ (b32 c32)) >>> 4) ^^^ (nib ((r2 ^^^ (b32 c32)) &&& 15#32).toNat)).toNat : Int)) rfl rfl (xor32 ((r2 ^^^ (b32 c32)) >>> 4) (nib ((r2 ^^^ (b32 c32)) &&& 15#32).toNat)) ?_)
   refine za (ze (v := (.int .u32 ((((r2 ^^^ (b32 c32)) >>> 4) ^^^ (nib ((r2 ^^^ (b32 c32)) &&& 15#32).toNat)).toNat : Int))) rfl ?_)
   refine zf ?_
   refine zc (hK34 _ _ ?_)
   refine zb ?_
   refine za (zd (v := (.int .u32 ((((r2 ^^^ (b32 c32)) >>> 4) ^^^ (nib ((r2 ^^^ (b32 c32)) &&& 15#32).toNat)).toNat : Int))) rfl ?_)
   refine za (o_shr (a := (((((r2 ^^^ (b32 c32)) >>> 4) ^^^ (nib ((r2 ^^^ (b32 c32)) &&& 15#32).toNat))).toNat : Int)) (b := ((4 : Nat) : Int)) (c := (((((r2 ^^^ (b32 c32)) >>> 4) ^^^ (nib ((r2 ^^^ (b32 c32)) &&& 15#32).toNat)) >>> 4).toNat : Int)) rfl rfl (by omega) (shr32 (((r2 ^^^ (b32 c32)) >>> 4) ^^^ (nib ((r2 ^^^ (b32 c32)) &&& 15#32).toNat)) 4 (by omega)) ?_)
   refine za (zd (v := (.int .u32 ((((r2 ^^^ (b32 c32)) >>> 4) ^^^ (nib ((r2 ^^^ (b32 c32)) &&& 15#32).toNat)).toNat : Int))) rfl ?_)
   refine za (o_and (a := (((((r2 ^^^ (b32 c32)) >>> 4) ^^^ (nib ((r2 ^^^ (b32 c32)) &&& 15#32).toNat))).toNat : Int)) (b := ((15#32).toNat : Int)) (c := (((((r2 ^^^ (b32 c32)) >>> 4) ^^^ (nib ((r2 ^^^ (b32 c32)) &&& 15#32).toNat)) &&& 15#32).toNat : Int)) rfl rfl (and32 (((r2 ^^^ (b32 c32)) >>> 4) ^^^ (nib ((r2 ^^^ (b32 c32)) &&& 15#32).toNat)) (15#32)) ?_)
   refine za (o_idxArr (i := ((((r2 ^^^ (b32 c32)) >>> 4) ^^^ (nib ((r2 ^^^ (b32 c32)) &&& 15#32).toNat)) &&& 15#32).toNat) Tryz.underlying406 ti349 rfl rfl (and15_lt _) ?_)
   refine za (zj (v := (.int .u32 ((nib ((((r2 ^^^ (b32 c32)) >>> 4) ^^^ (nib ((r2 ^^^ (b32 c32)) &&& 15#32).toNat)) &&& 15#32).toNat).toNat : Int))) Tryz.underlying349 rfl rfl hH24 (zh 0 rfl) (nib_at hg (((r2 ^^^ (b32 c32)) >>> 4) ^^^ (nib ((r2 ^^^ (b32 c32)) &&& 15#32).toNat))) ?_)
   refine za (o_xor (a := ((((((r2 ^^^ (b32 c32)) >>> 4) ^^^ (nib ((r2 ^^^ (b32 c32)) &&& 15#32).toNat)) >>> 4)).toNat : Int)) (b := (((nib ((((r2 ^^^ (b32 c32)) >>> 4) ^^^ (nib ((r2 ^^^ (b32 c32)) &&& 15#32).toNat)) &&& 15#32).toNat)).toNat : Int)) (c := ((((((r2 ^^^ (b32 c32)) >>> 4) ^^^ (nib ((r2 ^^^ (b32 c32)) &&& 15#32).toNat)) >>> 4) ^^^ (nib ((((r2 ^^^ (b32 c32)) >>> 4) ^^^ (nib ((r2 ^^^ (b32 c32)) &&& 15#32).toNat)) &&& 15#32).toNat)).toNat : Int)) rfl rfl (xor32 ((((r2 ^^^ (b32 c32)) >>> 4) ^^^ (nib ((r2 ^^^ (b32 c32)) &&& 15#32).toNat)) >>> 4) (nib ((((r2 ^^^ (b32 c32)) >>> 4) ^^^ (nib ((r2 ^^^ (b32 c32)) &&& 15#32).toNat)) &&& 15#32).toNat)) ?_)
   refine za (ze (v := (.int .u32 ((((((r2 ^^^ (b32 c32)) >>> 4) ^^^ (nib ((r2 ^^^ (b32 c32)) &&& 15#32).toNat)) >>> 4) ^^^ (nib ((((r2 ^^^ (b32 c32)) >>> 4) ^^^ (nib ((r2 ^^^ (b32 c32)) &&& 15#32).toNat)) &&& 15#32).toNat)).toNat : Int))) rfl ?_)
   refine zf ?_
   refine zG ?_
   refine zc (hK29 _ _ ?_)
   refine zb ?_
   refine za (zH (a := (j : Int)) (b := 1) e21_15 rfl (w64 (by omega) (by omega)) ?_)
   refine za (zd (v := (.int .i64 ((j : Int) + 1))) rfl ?_)
   refine zf ?_
   refine zc ⟨x18.length - (j + 1), _, rfl, ?_, ?_⟩
   · omega
   · exact ⟨(j + 1), (((((r2 ^^^ (b32 c32)) >>> 4) ^^^ (nib ((r2 ^^^ (b32 c32)) &&& 15#32).toNat)) >>> 4) ^^^ (nib ((((r2 ^^^ (b32 c32)) >>> 4) ^^^ (nib ((r2 ^^^ (b32 c32)) &&& 15#32).toNat)) &&& 15#32).toNat)), rfl, hH24, (by omega), (by rw [zO (show x18[j]? = some _ from hx33), crcF_snoc, ← hr2, cby_nib]), e21_0, e21_2, rfl, e21_5, e21_7, e21_8, e21_9, e21_10, e21_14, rfl⟩
  ·
   refine wp_exit ?_
   refine zx (zx (x_in (?_)))
   refine zG ?_
   refine zc (hK13 _ _ ?_)
   refine zb ?_
   refine za (zH (a := (k : Int)) (b := 1) e21_9 rfl (w64 (by omega) (by omega)) ?_)
   refine za (zd (v := (.int .i64 ((k : Int) + 1))) rfl ?_)
   refine zf ?_
   refine zc ⟨l.length - (k + 1), _, rfl, ?_, ?_⟩
   · omega
   · exact ⟨(k + 1), r2, rfl, hH24, (by omega), (by rw [zO (show l[k]? = some _ from hx19), List.flatten_append, crcF_append, ← hr, hr2, show j = x18.length from by omega, List.take_length]; simp), e21_0, e21_2, e21_3, e21_7, e21_8, rfl⟩
 ·
  refine wp_exit ?_
  refine zx (zx (x_in (?_)))
  refine zc (hK3 _ _ ?_)
  refine wp_seq_k fun K35 hK35 => ?_
  refine zb ?_
  refine za (zd (v := (.int .u32 (r.toNat : Int))) e5_3 ?_)
  refine za (o_compl (a := r) Tryz.underlying349 rfl ?_)
  refine za (ze (v := (.int .u32 ((~~~ r).toNat : Int))) rfl ?_)
  refine zf ?_
  refine zc (hK35 _ _ ?_)
  refine wp_ret ?_
  refine zq Tryz.results262  (v := (.int .u32 ((~~~ r).toNat : Int))) rfl ?_
  have e : k = l.length := by omega
  rw [e, List.take_length] at hr
  subst hr
  exact ⟨rfl, hH8⟩
set_option maxHeartbeats 4000000 in
theorem refsum_c {E w : World} {R : List Hp} (hH : Has E w [R]) (t : List UInt8) (hl : t.length ≤ 9223372036854775807) :
  Calls Tryz.prog 327 #[(S t)] w fun e w' => e = .returned (.int .u32 ((crcS t).toNat : Int)) ∧ Has E w' [R] := by
 refine zs (args := [(S t)]) Tryz.func327 rfl Tryz.ntmps327 (by simp) ?_
 refine wp_seq_k fun K1 hK1 => ?_
 refine zb ?_
 refine za (ze (v := (.int .u32 0)) rfl ?_)
 refine zf ?_
 refine zc (hK1 _ _ ?_)
 refine wp_seq_k fun K2 hK2 => ?_
 refine zb ?_
 refine za (ze (v := (.int .u32 4294967295)) rfl ?_)
 refine zf ?_
 refine zc (hK2 _ _ ?_)
 refine wp_seq_k fun K3 hK3 => ?_
 refine wp_seq_k fun K4 hK4 => ?_
 refine zb ?_
 refine za (ze (v := (.int .i64 0)) rfl ?_)
 refine zf ?_
 refine zc (hK4 _ _ ?_)
 refine wp_block ?_
 let I6 : Nat → (Nat → Value) → World → Prop := fun n__ r__ w__ => ∃ (k : Nat) (r : BitVec 32), n__ = t.length - k ∧ Has E w__ [R] ∧ (k ≤ t.length) ∧ (r = crcF (4294967295#32) (t.take k)) ∧ r__ 0 = (S t) ∧ r__ 2 = (.int .u32 0) ∧ r__ 3 = (.int .u32 (r.toNat : Int)) ∧ r__ 4 = (.int .i64 (k : Int))
 refine zT I6 _ ⟨0, (4294967295#32), rfl, hH, Nat.zero_le _, rfl, rfl, rfl, rfl, rfl⟩ ?_
 rintro n_ r9 w7 ⟨k, r, rfl, hH8, hk, hr, e5_0, e5_2, e5_3, e5_4⟩
 refine wp_seq_k fun K10 hK10 => ?_
 refine wp_seq_k fun K11 hK11 => ?_
 refine zb ?_
 refine za (zd (v := (.int .i64 (k : Int))) e5_4 ?_)
 refine za (zd (v := (S t)) e5_0 ?_)
 refine za (yb Tryz.underlying9 rfl ?_)
 refine za (zL (a := (k : Int)) (b := (t.length : Int)) rfl rfl ?_)
 refine zf ?_
 refine zc (hK11 _ _ ?_)
 refine zt rfl (fun h12 => ?_) (fun h12 => ?_)
 ·
  refine wp_skip ?_
  refine zc (hK10 _ _ ?_)
  refine wp_seq_k fun K13 hK13 => ?_
  refine wp_block ?_
  refine wp_seq_k fun K14 hK14 => ?_
  refine zb ?_
  refine za (ze (v := (.int .i64 0)) rfl ?_)
  refine zf ?_
  refine zc (hK14 _ _ ?_)
  refine wp_block ?_
  obtain ⟨ch, hch⟩ : ∃ x_, t[((k : Int)).toNat]? = some x_ := zM (by omega)
  have hch_lt := ch.toNat_lt
  let I16 : Nat → (Nat → Value) → World → Prop := fun n__ r__ w__ => ∃ (j : Nat) (r2 : BitVec 32), n__ = 8 - j ∧ Has E w__ [R] ∧ (j ≤ 8) ∧ (r2 ^^^ (b32 ch >>> j) = cbs j (r ^^^ b32 ch)) ∧ r__ 0 = (S t) ∧ r__ 2 = (.int .u32 0) ∧ r__ 3 = (.int .u32 (r2.toNat : Int)) ∧ r__ 4 = (.int .i64 (k : Int)) ∧ r__ 5 = (.int .i64 (j : Int)) ∧ r__ 10 = (.bool (decide ((k : Int) < (t.length : Int))))
  refine zT I16 _ ⟨0, r, rfl, hH8, (by omega), (by simp [cbs]), e5_0, e5_2, e5_3, e5_4, rfl, rfl⟩ ?_
  rintro n_ r19 w17 ⟨j, r2, rfl, hH18, hj, hr2, e15_0, e15_2, e15_3, e15_4, e15_5, e15_10⟩
  refine wp_seq_k fun K20 hK20 => ?_
  refine wp_seq_k fun K21 hK21 => ?_
  refine zb ?_
  refine za (zd (v := (.int .i64 (j : Int))) e15_5 ?_)
  refine za (zL (a := (j : Int)) (b := 8) rfl rfl ?_)
  refine zf ?_
  refine zc (hK21 _ _ ?_)
  refine zt rfl (fun h22 => ?_) (fun h22 => ?_)
  ·
   refine wp_skip ?_
   refine zc (hK20 _ _ ?_)
   refine wp_seq_k fun K23 hK23 => ?_
   refine wp_block ?_
   refine wp_seq_k fun K24 hK24 => ?_
   refine zb ?_
   refine za (zd (v := (.int .u32 (r2.toNat : Int))) e15_3 ?_)
   refine za (o_rem (a := (r2.toNat : Int)) (b := 2) (c := (r2.toNat : Int) % 2) rfl rfl (by omega) ((Int.tmod_eq_emod_of_nonneg (by first | exact Int.natCast_nonneg _ | omega))) ?_)
   refine za (zd (v := (S t)) e15_0 ?_)
   refine za (zd (v := (.int .i64 (k : Int))) e15_4 ?_)
   refine za (o_sidx Tryz.underlying9 rfl rfl (by omega) hch ?_)
   refine za (zd (v := (.int .i64 (j : Int))) e15_5 ?_)
   refine za (o_shr (a := (ch.toNat : Int)) (b := ((j : Nat) : Int)) (c := ((ch.toNat >>> j : Nat) : Int)) rfl rfl (by omega) (shr8 ch j (by omega)) ?_)
   refine za (o_rem (a := ((ch.toNat >>> j : Nat) : Int)) (b := 2) (c := ((ch.toNat >>> j : Nat) : Int) % 2) rfl rfl (by omega) ((Int.tmod_eq_emod_of_nonneg (by first | exact Int.natCast_nonneg _ | omega))) ?_)
   refine za (ya (c := (((ch.toNat >>> j : Nat) : Int) % 2)) Tryz.underlying5 Tryz.underlying349 rfl (wrap_u32 (by omega) (by omega)) ?_)
   refine za (o_neq (a := (r2.toNat : Int) % 2) (b := ((ch.toNat >>> j : Nat) : Int) % 2) rfl rfl ?_)
   refine za (ze (v := (.bool (decide ((r2.toNat : Int) % 2 ≠ ((ch.toNat >>> j : Nat) : Int) % 2)))) rfl ?_)
   refine zf ?_
   refine zc (hK24 _ _ ?_)
   refine wp_seq_k fun K25 hK25 => ?_
   refine zb ?_
   refine za (zd (v := (.int .u32 (r2.toNat : Int))) e15_3 ?_)
   refine za (o_quo (a := ((r2).toNat : Int)) (b := ((2 : Nat) : Int)) (c := ((r2 >>> 1).toNat : Int)) rfl rfl (by decide) (quo32 r2 2 1 (by decide)) ?_)
   refine za (ze (v := (.int .u32 ((r2 >>> 1).toNat : Int))) rfl ?_)
   refine zf ?_
   refine zc (hK25 _ _ ?_)
   refine wp_seq_k fun K26 hK26 => ?_
   refine zb ?_
   refine za (zd (v := (.bool (decide ((r2.toNat : Int) % 2 ≠ ((ch.toNat >>> j : Nat) : Int) % 2)))) rfl ?_)
   refine zf ?_
   refine zc (hK26 _ _ ?_)
   refine zt rfl (fun h27 => ?_) (fun h27 => ?_)
   ·
    refine zb ?_
    refine za (zd (v := (.int .u32 ((r2 >>> 1).toNat : Int))) rfl ?_)
    refine za (o_xor (a := (((r2 >>> 1)).toNat : Int)) (b := ((3988292384#32).toNat : Int)) (c := (((r2 >>> 1) ^^^ 3988292384#32).toNat : Int)) rfl rfl (xor32 (r2 >>> 1) (3988292384#32)) ?_)
    refine za (ze (v := (.int .u32 (((r2 >>> 1) ^^^ 3988292384#32).toNat : Int))) rfl ?_)
    refine zf ?_
    refine zG ?_
    refine zc (hK23 _ _ ?_)
    refine zb ?_
    refine za (zd (v := (.int .i64 (j : Int))) e15_5 ?_)
    refine za (zH (a := (j : Int)) (b := 1) rfl rfl (w64 (by omega) (by omega)) ?_)
    refine za (ze (v := (.int .i64 ((j : Int) + 1))) rfl ?_)
    refine zf ?_
    refine zc ⟨8 - (j + 1), _, rfl, ?_, ?_⟩
    · omega
    · exact ⟨(j + 1), ((r2 >>> 1) ^^^ 3988292384#32), rfl, hH18, (by omega), (bits_yes hr2 (by assumption) (by omega)), e15_0, e15_2, rfl, e15_4, rfl, e15_10⟩
   ·
    refine wp_skip ?_
    refine zG ?_
    refine zc (hK23 _ _ ?_)
    refine zb ?_
    refine za (zd (v := (.int .i64 (j : Int))) e15_5 ?_)
    refine za (zH (a := (j : Int)) (b := 1) rfl rfl (w64 (by omega) (by omega)) ?_)
    refine za (ze (v := (.int .i64 ((j : Int) + 1))) rfl ?_)
    refine zf ?_
    refine zc ⟨8 - (j + 1), _, rfl, ?_, ?_⟩
    · omega
    · exact ⟨(j + 1), (r2 >>> 1), rfl, hH18, (by omega), (bits_no hr2 (by assumption) (by omega)), e15_0, e15_2, rfl, e15_4, rfl, e15_10⟩
  ·
   refine wp_exit ?_
   refine zx (zx (x_in (?_)))
   refine zG ?_
   refine zc (hK13 _ _ ?_)
   refine zb ?_
   refine za (zd (v := (.int .i64 (k : Int))) e15_4 ?_)
   refine za (zH (a := (k : Int)) (b := 1) rfl rfl (w64 (by omega) (by omega)) ?_)
   refine za (ze (v := (.int .i64 ((k : Int) + 1))) rfl ?_)
   refine zf ?_
   refine zc ⟨t.length - (k + 1), _, rfl, ?_, ?_⟩
   · omega
   · exact ⟨(k + 1), r2, rfl, hH18, (by omega), (by rw [zO (show t[k]? = some _ from hch), crcF_snoc, ← hr]; exact bits_done hr2 (by omega)), e15_0, e15_2, e15_3, rfl⟩
 ·
  refine wp_exit ?_
  refine zx (zx (x_in (?_)))
  refine zc (hK3 _ _ ?_)
  refine wp_seq_k fun K28 hK28 => ?_
  refine zb ?_
  refine za (zd (v := (.int .u32 (r.toNat : Int))) e5_3 ?_)
  refine za (o_sub (c := ((~~~ r).toNat : Int)) rfl rfl (sub32 r) ?_)
  refine za (ze (v := (.int .u32 ((~~~ r).toNat : Int))) rfl ?_)
  refine zf ?_
  refine zc (hK28 _ _ ?_)
  refine wp_ret ?_
  refine zq Tryz.results327  (v := (.int .u32 ((~~~ r).toNat : Int))) rfl ?_
  have e : k = t.length := by omega
  rw [e, List.take_length] at hr
  subst hr
  exact ⟨rfl, hH8⟩
end Go.Q
namespace Go.Q
open Go.Proofs
set_option linter.unusedVariables false
set_option maxRecDepth 100000
attribute [local irreducible] wpList OK Code.wp
set_option maxHeartbeats 4000000 in
theorem laid_c {E w : World} {R : List Hp} (hH : Has E w [R]) (hg : CellsAt R 0 0 nibV) {v : Value} {l : List (List UInt8)} (hv : Sl R 1 v l.length (l.map sV)) (hlb : ∀ x ∈ l, x.length ≤ 9223372036854775807) :
  Calls Tryz.prog 175 #[v] w fun e w' => e = .returned (S (laidS (crcS l.flatten))) ∧ Has E w' [R] := by
 refine zs (args := [v]) Tryz.func175 rfl Tryz.ntmps175 (by simp) ?_
 refine wp_seq_k fun K1 hK1 => ?_
 refine zb ?_
 refine za (ze (v := (S ([] : List UInt8))) rfl ?_)
 refine zf ?_
 refine zc (hK1 _ _ ?_)
 refine wp_seq_k fun K2 hK2 => ?_
 refine zb ?_
 refine za (zd (v := v) rfl ?_)
 refine za (zk (vs := #[v]) ca262 rfl (zF rfl) (of2_c hH.all (hg.mono (zh 0 rfl)) (hv.mono (zh 0 rfl)) hlb) ?_)
 rintro _ w5 ⟨rfl, hX3⟩
 refine ⟨_, rfl, ?_⟩
 have hH4 := hX3.of_all
 refine za (ze (v := (.int .u32 ((crcS l.flatten).toNat : Int))) rfl ?_)
 refine zf ?_
 refine zc (hK2 _ _ ?_)
 refine wp_seq_k fun K6 hK6 => ?_
 refine zb ?_
 refine za (zd (v := (.int .u32 ((crcS l.flatten).toNat : Int))) rfl ?_)
 refine za (ya (c := ((lo8 (crcS l.flatten)).toNat : Int)) Tryz.underlying349 Tryz.underlying5 rfl (conv_lo8 _) ?_)
 refine za (zd (v := (.int .u32 ((crcS l.flatten).toNat : Int))) rfl ?_)
 refine za (o_shr (a := (((crcS l.flatten)).toNat : Int)) (b := ((8 : Nat) : Int)) (c := (((crcS l.flatten) >>> 8).toNat : Int)) rfl rfl (by omega) (shr32 (crcS l.flatten) 8 (by omega)) ?_)
 refine za (ya (c := ((lo8 ((crcS l.flatten) >>> 8)).toNat : Int)) Tryz.underlying349 Tryz.underlying5 rfl (conv_lo8 _) ?_)
 refine za (zd (v := (.int .u32 ((crcS l.flatten).toNat : Int))) rfl ?_)
 refine za (o_shr (a := (((crcS l.flatten)).toNat : Int)) (b := ((16 : Nat) : Int)) (c := (((crcS l.flatten) >>> 16).toNat : Int)) rfl rfl (by omega) (shr32 (crcS l.flatten) 16 (by omega)) ?_)
 refine za (ya (c := ((lo8 ((crcS l.flatten) >>> 16)).toNat : Int)) Tryz.underlying349 Tryz.underlying5 rfl (conv_lo8 _) ?_)
 refine za (zd (v := (.int .u32 ((crcS l.flatten).toNat : Int))) rfl ?_)
 refine za (o_shr (a := (((crcS l.flatten)).toNat : Int)) (b := ((24 : Nat) : Int)) (c := (((crcS l.flatten) >>> 24).toNat : Int)) rfl rfl (by omega) (shr32 (crcS l.flatten) 24 (by omega)) ?_)
 refine za (ya (c := ((lo8 ((crcS l.flatten) >>> 24)).toNat : Int)) Tryz.underlying349 Tryz.underlying5 rfl (conv_lo8 _) ?_)
 refine za (zu (ps := #[(0, (bV (lo8 (crcS l.flatten)))), (1, (bV (lo8 ((crcS l.flatten) >>> 8)))), (2, (bV (lo8 ((crcS l.flatten) >>> 16)))), (3, (bV (lo8 ((crcS l.flatten) >>> 24))))]) (cells := #[(bV (lo8 (crcS l.flatten))), (bV (lo8 ((crcS l.flatten) >>> 8))), (bV (lo8 ((crcS l.flatten) >>> 16))), (bV (lo8 ((crcS l.flatten) >>> 24)))]) Tryz.underlying30 ti5 (by decide) (parts4 rfl rfl rfl rfl) (by kernel_rfl) hH4 fun b7 w8 hH9 => ?_)
 refine za (o_bstr Tryz.underlying30 Tryz.underlying5 Tryz.underlying9 rfl (zW (f := bV) (l := [(lo8 (crcS l.flatten)), (lo8 ((crcS l.flatten) >>> 8)), (lo8 ((crcS l.flatten) >>> 16)), (lo8 ((crcS l.flatten) >>> 24))]) rfl rfl (by simp)) hH9 (zh 0 rfl) ?_)
 refine za (ze (v := (S [(lo8 (crcS l.flatten)), (lo8 ((crcS l.flatten) >>> 8)), (lo8 ((crcS l.flatten) >>> 16)), (lo8 ((crcS l.flatten) >>> 24))])) rfl ?_)
 refine zf ?_
 refine zc (hK6 _ _ ?_)
 refine wp_ret ?_
 refine zq Tryz.results175  (v := (S [(lo8 (crcS l.flatten)), (lo8 ((crcS l.flatten) >>> 8)), (lo8 ((crcS l.flatten) >>> 16)), (lo8 ((crcS l.flatten) >>> 24))])) rfl ?_
 have hH10 : Has E w8 [R] := (hH9.front 1 rfl).first 1 rfl
 exact ⟨rfl, hH10⟩
set_option maxHeartbeats 4000000 in
theorem reflaid_c {E w : World} {R : List Hp} (hH : Has E w [R]) (t : List UInt8) (hl : t.length ≤ 9223372036854775807) :
  Calls Tryz.prog 267 #[(S t)] w fun e w' => e = .returned (S (laidS (crcS t))) ∧ Has E w' [R] := by
 refine zs (args := [(S t)]) Tryz.func267 rfl Tryz.ntmps267 (by simp) ?_
 refine wp_seq_k fun K1 hK1 => ?_
 refine zb ?_
 refine za (ze (v := (S ([] : List UInt8))) rfl ?_)
 refine zf ?_
 refine zc (hK1 _ _ ?_)
 refine wp_seq_k fun K2 hK2 => ?_
 refine zb ?_
 refine za (zd (v := (S t)) rfl ?_)
 refine za (zk (vs := #[(S t)]) ca327 rfl (zF rfl) (refsum_c hH.all t hl) ?_)
 rintro _ w5 ⟨rfl, hX3⟩
 refine ⟨_, rfl, ?_⟩
 have hH4 := hX3.of_all
 refine za (ze (v := (.int .u32 ((crcS t).toNat : Int))) rfl ?_)
 refine zf ?_
 refine zc (hK2 _ _ ?_)
 refine wp_seq_k fun K6 hK6 => ?_
 refine zb ?_
 refine za (zd (v := (.int .u32 ((crcS t).toNat : Int))) rfl ?_)
 refine za (o_rem (a := ((crcS t).toNat : Int)) (b := 256) (c := ((crcS t).toNat : Int) % 256) rfl rfl (by omega) ((Int.tmod_eq_emod_of_nonneg (by first | exact Int.natCast_nonneg _ | omega))) ?_)
 refine za (ya (c := ((by8 (((crcS t).toNat : Int) % 256)).toNat : Int)) Tryz.underlying349 Tryz.underlying5 rfl (wrap_by8 _) ?_)
 refine za (zd (v := (.int .u32 ((crcS t).toNat : Int))) rfl ?_)
 refine za (o_quo (a := (((crcS t)).toNat : Int)) (b := ((256 : Nat) : Int)) (c := (((crcS t) >>> 8).toNat : Int)) rfl rfl (by decide) (quo32 (crcS t) 256 8 (by decide)) ?_)
 refine za (o_rem (a := (((crcS t) >>> 8).toNat : Int)) (b := 256) (c := (((crcS t) >>> 8).toNat : Int) % 256) rfl rfl (by omega) ((Int.tmod_eq_emod_of_nonneg (by first | exact Int.natCast_nonneg _ | omega))) ?_)
 refine za (ya (c := ((by8 ((((crcS t) >>> 8).toNat : Int) % 256)).toNat : Int)) Tryz.underlying349 Tryz.underlying5 rfl (wrap_by8 _) ?_)
 refine za (zd (v := (.int .u32 ((crcS t).toNat : Int))) rfl ?_)
 refine za (o_quo (a := (((crcS t)).toNat : Int)) (b := ((65536 : Nat) : Int)) (c := (((crcS t) >>> 16).toNat : Int)) rfl rfl (by decide) (quo32 (crcS t) 65536 16 (by decide)) ?_)
 refine za (o_rem (a := (((crcS t) >>> 16).toNat : Int)) (b := 256) (c := (((crcS t) >>> 16).toNat : Int) % 256) rfl rfl (by omega) ((Int.tmod_eq_emod_of_nonneg (by first | exact Int.natCast_nonneg _ | omega))) ?_)
 refine za (ya (c := ((by8 ((((crcS t) >>> 16).toNat : Int) % 256)).toNat : Int)) Tryz.underlying349 Tryz.underlying5 rfl (wrap_by8 _) ?_)
 refine za (zd (v := (.int .u32 ((crcS t).toNat : Int))) rfl ?_)
 refine za (o_quo (a := (((crcS t)).toNat : Int)) (b := ((16777216 : Nat) : Int)) (c := (((crcS t) >>> 24).toNat : Int)) rfl rfl (by decide) (quo32 (crcS t) 16777216 24 (by decide)) ?_)
 refine za (ya (c := ((lo8 ((crcS t) >>> 24)).toNat : Int)) Tryz.underlying349 Tryz.underlying5 rfl (conv_lo8 _) ?_)
 refine za (zu (ps := #[(0, (bV (by8 (((crcS t).toNat : Int) % 256)))), (1, (bV (by8 ((((crcS t) >>> 8).toNat : Int) % 256)))), (2, (bV (by8 ((((crcS t) >>> 16).toNat : Int) % 256)))), (3, (bV (lo8 ((crcS t) >>> 24))))]) (cells := #[(bV (by8 (((crcS t).toNat : Int) % 256))), (bV (by8 ((((crcS t) >>> 8).toNat : Int) % 256))), (bV (by8 ((((crcS t) >>> 16).toNat : Int) % 256))), (bV (lo8 ((crcS t) >>> 24)))]) Tryz.underlying30 ti5 (by decide) (parts4 rfl rfl rfl rfl) (by kernel_rfl) hH4 fun b7 w8 hH9 => ?_)
 refine za (o_bstr Tryz.underlying30 Tryz.underlying5 Tryz.underlying9 rfl (zW (f := bV) (l := [(by8 (((crcS t).toNat : Int) % 256)), (by8 ((((crcS t) >>> 8).toNat : Int) % 256)), (by8 ((((crcS t) >>> 16).toNat : Int) % 256)), (lo8 ((crcS t) >>> 24))]) rfl rfl (by simp)) hH9 (zh 0 rfl) ?_)
 refine za (ze (v := (S [(by8 (((crcS t).toNat : Int) % 256)), (by8 ((((crcS t) >>> 8).toNat : Int) % 256)), (by8 ((((crcS t) >>> 16).toNat : Int) % 256)), (lo8 ((crcS t) >>> 24))])) rfl ?_)
 refine zf ?_
 refine zc (hK6 _ _ ?_)
 refine wp_ret ?_
 refine zq Tryz.results267  (v := (S [(by8 (((crcS t).toNat : Int) % 256)), (by8 ((((crcS t) >>> 8).toNat : Int) % 256)), (by8 ((((crcS t) >>> 16).toNat : Int) % 256)), (lo8 ((crcS t) >>> 24))])) rfl ?_
 have hH10 : Has E w8 [R] := (hH9.front 1 rfl).first 1 rfl
 exact ⟨by rw [laidS_ref], hH10⟩
set_option maxHeartbeats 4000000 in
theorem seal_c {E w : World} {R : List Hp} (hH : Has E w [R]) (hg : CellsAt R 0 0 nibV) {v : Value} {l : List (List UInt8)} (hv : Sl R 1 v l.length (l.map sV)) (hn : l.length ≤ 1000000) (hl : l.flatten.length ≤ 1000000000) :
  Calls Tryz.prog 89 #[v] w fun e w' => e = .returned (S (sealS l.flatten)) ∧ Has E w' [R] := by
 refine zs (args := [v]) Tryz.func89 rfl Tryz.ntmps89 (by simp) ?_
 refine wp_seq_k fun K1 hK1 => ?_
 refine zb ?_
 refine za (ze (v := (S ([] : List UInt8))) rfl ?_)
 refine zf ?_
 refine zc (hK1 _ _ ?_)
 refine wp_seq_k fun K2 hK2 => ?_
 refine zb ?_
 refine za (zd (v := v) rfl ?_)
 refine za (zk (vs := #[v, (S ([] : List UInt8))]) ca118 rfl (zI rfl rfl) (join_c hH.all (hv.mono (zh 0 rfl)) hn hl) ?_)
 rintro _ w5 ⟨rfl, hX3⟩
 refine ⟨_, rfl, ?_⟩
 have hH4 := hX3.of_all
 refine za (zd (v := v) rfl ?_)
 refine za (zk (vs := #[v]) ca175 rfl (zF rfl) (laid_c hH4.all (hg.mono (zh 0 rfl)) (hv.mono (zh 0 rfl)) (fun x hx => by have := flat_le hx; omega)) ?_)
 rintro _ w8 ⟨rfl, hX6⟩
 refine ⟨_, rfl, ?_⟩
 have hH7 := hX6.of_all
 refine za (o_sadd rfl rfl (by rw [laidS_len]; omega) ?_)
 refine za (ze (v := (S (l.flatten ++ (laidS (crcS l.flatten))))) rfl ?_)
 refine zf ?_
 refine zc (hK2 _ _ ?_)
 refine wp_ret ?_
 refine zq Tryz.results89  (v := (S (l.flatten ++ (laidS (crcS l.flatten))))) rfl ?_
 exact ⟨rfl, hH7⟩
end Go.Q
namespace Go.Q
open Go.Proofs
set_option linter.unusedVariables false
set_option maxRecDepth 100000
attribute [local irreducible] wpList OK Code.wp
set_option maxHeartbeats 4000000 in
theorem hright_c {E w : World} {R : List Hp} {h : Hd}  (hH : Has E w [R]) :
  Calls Tryz.prog 88 #[(.agg #[(.int .i64 h.seq), (.int .i64 h.ep), (.int .i64 h.cut), (.int .i64 h.st), (.int .i64 h.mrk)])] w fun e w' => e = .returned (.bool (hdR h)) ∧ Has E w' [R] := by
 refine zs (args := [(.agg #[(.int .i64 h.seq), (.int .i64 h.ep), (.int .i64 h.cut), (.int .i64 h.st), (.int .i64 h.mrk)])]) Tryz.func88 rfl Tryz.ntmps88 (by simp) ?_
 refine wp_seq_k fun K1 hK1 => ?_
 refine zb ?_
 refine za (o_box (cs := #[(.int .i64 h.seq), (.int .i64 h.ep), (.int .i64 h.cut), (.int .i64 h.st), (.int .i64 h.mrk)]) rfl rfl hH fun b2 w3 hH4 => ?_)
 refine za (ze (v := (.bool false)) rfl ?_)
 refine zf ?_
 refine zc (hK1 _ _ ?_)
 refine wp_seq_k fun K5 hK5 => ?_
 refine zb ?_
 refine za (zg (k := 0) (fun _ => by kernel_rfl) rfl ?_)
 refine za (zj (v := (.int .i64 h.seq)) Tryz.underlying3 rfl rfl hH4 (zh 0 rfl) (CellsAt.one rfl) ?_)
 refine za (zg (k := 1) (fun _ => by kernel_rfl) rfl ?_)
 refine za (zj (v := (.int .i64 h.ep)) Tryz.underlying3 rfl rfl hH4 (zh 0 rfl) (CellsAt.one rfl) ?_)
 refine za (zg (k := 2) (fun _ => by kernel_rfl) rfl ?_)
 refine za (zj (v := (.int .i64 h.cut)) Tryz.underlying3 rfl rfl hH4 (zh 0 rfl) (CellsAt.one rfl) ?_)
 refine za (zg (k := 3) (fun _ => by kernel_rfl) rfl ?_)
 refine za (zj (v := (.int .i64 h.st)) Tryz.underlying3 rfl rfl hH4 (zh 0 rfl) (CellsAt.one rfl) ?_)
 refine za (zg (k := 4) (fun _ => by kernel_rfl) rfl ?_)
 refine za (zj (v := (.int .i64 h.mrk)) Tryz.underlying3 rfl rfl hH4 (zh 0 rfl) (CellsAt.one rfl) ?_)
 refine za (zu (ps := #[(0, (.int .i64 h.ep)), (1, (.int .i64 h.cut)), (2, (.int .i64 h.st)), (3, (.int .i64 h.mrk))]) (cells := #[(.int .i64 h.ep), (.int .i64 h.cut), (.int .i64 h.st), (.int .i64 h.mrk)]) Tryz.underlying47 ti3 (by decide) (parts4 rfl rfl rfl rfl) (by kernel_rfl) hH4 fun b6 w7 hH8 => ?_)
 refine za (zk (vs := #[(.int .i64 h.seq), (.slice (some ⟨b6, 0, none⟩) 4 4)]) ca174 rfl (zI rfl rfl) (least_c hH8.all (l := [h.ep, h.cut, h.st, h.mrk]) h.seq ((zW (f := iV) (l := [h.ep, h.cut, h.st, h.mrk]) rfl rfl (by simp)).mono (zh 0 rfl))) ?_)
 rintro _ w11 ⟨rfl, hX9⟩
 refine ⟨_, rfl, ?_⟩
 have hH10 := hX9.of_all
 refine za (o_geq (a := [h.ep, h.cut, h.st, h.mrk].foldl min h.seq) (b := 0) rfl rfl ?_)
 refine za (zd (v := (.bool (decide (0 ≤ [h.ep, h.cut, h.st, h.mrk].foldl min h.seq)))) rfl ?_)
 by_cases h12 : 0 ≤ [h.ep, h.cut, h.st, h.mrk].foldl min h.seq
 ·
  refine zn 16 rfl (cT h12) (zg (k := 1) (fun _ => by kernel_rfl) rfl ?_)
  refine zn 16 rfl (cT h12) (zj (v := (.int .i64 h.ep)) Tryz.underlying3 rfl rfl hH10 (zh 1 rfl) (CellsAt.one rfl) ?_)
  refine zn 16 rfl (cT h12) (o_leq (a := h.ep) (b := 2147483647) rfl rfl ?_)
  refine za (zo (u := (.bool (decide (h.ep ≤ 2147483647)))) ((rfl : _ = _).trans (cT h12)) rfl ?_)
  refine za (zd (v := (.bool (decide (h.ep ≤ 2147483647)))) rfl ?_)
  by_cases h13 : h.ep ≤ 2147483647
  ·
   refine zn 21 rfl (cT h13) (zg (k := 0) (fun _ => by kernel_rfl) rfl ?_)
   refine zn 21 rfl (cT h13) (zj (v := (.int .i64 h.seq)) Tryz.underlying3 rfl rfl hH10 (zh 1 rfl) (CellsAt.one rfl) ?_)
   refine zn 21 rfl (cT h13) (zg (k := 2) (fun _ => by kernel_rfl) rfl ?_)
   refine zn 21 rfl (cT h13) (zj (v := (.int .i64 h.cut)) Tryz.underlying3 rfl rfl hH10 (zh 1 rfl) (CellsAt.one rfl) ?_)
   refine zn 21 rfl (cT h13) (zg (k := 3) (fun _ => by kernel_rfl) rfl ?_)
   refine zn 21 rfl (cT h13) (zj (v := (.int .i64 h.st)) Tryz.underlying3 rfl rfl hH10 (zh 1 rfl) (CellsAt.one rfl) ?_)
   refine zn 21 rfl (cT h13) (zg (k := 4) (fun _ => by kernel_rfl) rfl ?_)
   refine zn 21 rfl (cT h13) (zj (v := (.int .i64 h.mrk)) Tryz.underlying3 rfl rfl hH10 (zh 1 rfl) (CellsAt.one rfl) ?_)
   refine zn 21 rfl (cT h13) (zu (ps := #[(0, (.int .i64 h.cut)), (1, (.int .i64 h.st)), (2, (.int .i64 h.mrk))]) (cells := #[(.int .i64 h.cut), (.int .i64 h.st), (.int .i64 h.mrk)]) Tryz.underlying47 ti3 (by decide) (parts3 rfl rfl rfl) (by kernel_rfl) hH10 fun b14 w15 hH16 => ?_)
   refine zn 21 rfl (cT h13) (zk (vs := #[(.int .i64 h.seq), (.slice (some ⟨b14, 0, none⟩) 3 3)]) ca117 rfl (zI rfl rfl) (most_c hH16.all (l := [h.cut, h.st, h.mrk]) h.seq ((zW (f := iV) (l := [h.cut, h.st, h.mrk]) rfl rfl (by simp)).mono (zh 0 rfl))) ?_)
   rintro _ w19 ⟨rfl, hX17⟩
   refine ⟨_, rfl, ?_⟩
   have hH18 := hX17.of_all
   refine zn 21 rfl (cT h13) (o_leq (a := [h.cut, h.st, h.mrk].foldl max h.seq) (b := 4611686018427387903) rfl rfl ?_)
   refine za (zo (u := (.bool (decide ([h.cut, h.st, h.mrk].foldl max h.seq ≤ 4611686018427387903)))) ((rfl : _ = _).trans (cT h13)) rfl ?_)
   refine za (ze (v := (.bool (decide ([h.cut, h.st, h.mrk].foldl max h.seq ≤ 4611686018427387903)))) rfl ?_)
   refine zf ?_
   refine zc (hK5 _ _ ?_)
   refine wp_ret ?_
   refine zq Tryz.results88  (v := (.bool (decide ([h.cut, h.st, h.mrk].foldl max h.seq ≤ 4611686018427387903)))) rfl ?_
   have q20 : (hdR h) = decide ([h.cut, h.st, h.mrk].foldl max h.seq ≤ 4611686018427387903) := by unfold hdR; first | (rw [decide_eq_decide]; simp only [List.foldl_cons, List.foldl_nil] at *; omega) | (rw [decide_eq_false_iff_not]; simp only [List.foldl_cons, List.foldl_nil] at *; omega)
   have hH21 : Has E w19 [R] := (hH18.front 3 rfl).first 1 rfl
   exact ⟨by rw [q20], hH21⟩
  ·
   refine zi (b' := false) 21 rfl (cF h13) rfl ?_
   refine zi (b' := false) 21 rfl (cF h13) rfl ?_
   refine zi (b' := false) 21 rfl (cF h13) rfl ?_
   refine zi (b' := false) 21 rfl (cF h13) rfl ?_
   refine zi (b' := false) 21 rfl (cF h13) rfl ?_
   refine zi (b' := false) 21 rfl (cF h13) rfl ?_
   refine zi (b' := false) 21 rfl (cF h13) rfl ?_
   refine zi (b' := false) 21 rfl (cF h13) rfl ?_
   refine zi (b' := false) 21 rfl (cF h13) rfl ?_
   refine zi (b' := false) 21 rfl (cF h13) rfl ?_
   refine zi (b' := false) 21 rfl (cF h13) rfl ?_
   refine za (zm (u := (.bool false)) ((rfl : _ = _).trans (cF h13)) rfl ?_)
   refine za (ze (v := (.bool false)) rfl ?_)
   refine zf ?_
   refine zc (hK5 _ _ ?_)
   refine wp_ret ?_
   refine zq Tryz.results88  (v := (.bool false)) rfl ?_
   have q22 : (hdR h) = false := by unfold hdR; first | (rw [decide_eq_decide]; simp only [List.foldl_cons, List.foldl_nil] at *; omega) | (rw [decide_eq_false_iff_not]; simp only [List.foldl_cons, List.foldl_nil] at *; omega)
   have hH23 : Has E w11 [R] := (hH10.front 2 rfl).first 1 rfl
   exact ⟨by rw [q22], hH23⟩
 ·
  refine zi (b' := false) 16 rfl (cF h12) rfl ?_
  refine zi (b' := false) 16 rfl (cF h12) rfl ?_
  refine zi (b' := false) 16 rfl (cF h12) rfl ?_
  refine za (zm (u := (.bool false)) ((rfl : _ = _).trans (cF h12)) rfl ?_)
  refine za (zd (v := (.bool false)) rfl ?_)
  refine zi (b' := false) 21 rfl rfl rfl ?_
  refine zi (b' := false) 21 rfl rfl rfl ?_
  refine zi (b' := false) 21 rfl rfl rfl ?_
  refine zi (b' := false) 21 rfl rfl rfl ?_
  refine zi (b' := false) 21 rfl rfl rfl ?_
  refine zi (b' := false) 21 rfl rfl rfl ?_
  refine zi (b' := false) 21 rfl rfl rfl ?_
  refine zi (b' := false) 21 rfl rfl rfl ?_
  refine zi (b' := false) 21 rfl rfl rfl ?_
  refine zi (b' := false) 21 rfl rfl rfl ?_
  refine zi (b' := false) 21 rfl rfl rfl ?_
  refine za (zm (u := (.bool false)) rfl rfl ?_)
  refine za (ze (v := (.bool false)) rfl ?_)
  refine zf ?_
  refine zc (hK5 _ _ ?_)
  refine wp_ret ?_
  refine zq Tryz.results88  (v := (.bool false)) rfl ?_
  have q24 : (hdR h) = false := by unfold hdR; first | (rw [decide_eq_decide]; simp only [List.foldl_cons, List.foldl_nil] at *; omega) | (rw [decide_eq_false_iff_not]; simp only [List.foldl_cons, List.foldl_nil] at *; omega)
  have hH25 : Has E w11 [R] := (hH10.front 2 rfl).first 1 rfl
  exact ⟨by rw [q24], hH25⟩
set_option maxHeartbeats 4000000 in
theorem hlaid_c {E w : World} {R : List Hp} {h : Hd}  (hH : Has E w [R]) (hg : CellsAt R 0 0 nibV) :
  Calls Tryz.prog 13 #[(.agg #[(.int .i64 h.seq), (.int .i64 h.ep), (.int .i64 h.cut), (.int .i64 h.st), (.int .i64 h.mrk)])] w fun e w' => e = .returned (S (hdL h)) ∧ Has E w' [R] := by
 refine zs (args := [(.agg #[(.int .i64 h.seq), (.int .i64 h.ep), (.int .i64 h.cut), (.int .i64 h.st), (.int .i64 h.mrk)])]) Tryz.func13 rfl Tryz.ntmps13 (by simp) ?_
 refine wp_seq_k fun K1 hK1 => ?_
 refine zb ?_
 refine za (o_box (cs := #[(.int .i64 h.seq), (.int .i64 h.ep), (.int .i64 h.cut), (.int .i64 h.st), (.int .i64 h.mrk)]) rfl rfl hH fun b2 w3 hH4 => ?_)
 refine za (ze (v := (S ([] : List UInt8))) rfl ?_)
 refine zf ?_
 refine zc (hK1 _ _ ?_)
 refine wp_seq_k fun K5 hK5 => ?_
 refine wp_seq_k fun K6 hK6 => ?_
 refine zb ?_
 refine za (zC (cs := [(.int .i64 h.seq), (.int .i64 h.ep), (.int .i64 h.cut), (.int .i64 h.st), (.int .i64 h.mrk)]) Tryz.underlying23 rfl zR rfl hH4 (zh 0 rfl) (CellsAt.one rfl) ?_)
 refine za (zk (vs := #[(.agg #[(.int .i64 h.seq), (.int .i64 h.ep), (.int .i64 h.cut), (.int .i64 h.st), (.int .i64 h.mrk)])]) ca88 rfl (zF rfl) (hright_c (h := h) hH4.all ) ?_)
 rintro _ w9 ⟨rfl, hX7⟩
 refine ⟨_, rfl, ?_⟩
 have hH8 := hX7.of_all
 refine za (o_not rfl ?_)
 refine zf ?_
 refine zc (hK6 _ _ ?_)
 refine zX rfl (fun h10 => ?_) (fun h10 => ?_)
 ·
  have h10_n : (hdR h) = false := by first | simpa using h10 | exact Bool.of_not_eq_true (fun g_ => by rw [g_] at h10; cases h10)
  have hE_ := hdL_no (h := h) (by simpa using h10)
  refine wp_seq_k fun K11 hK11 => ?_
  refine zb ?_
  refine za (ze (v := (S ([] : List UInt8))) rfl ?_)
  refine zf ?_
  refine zc (hK11 _ _ ?_)
  refine wp_ret ?_
  refine zv (zq Tryz.results13  (v := (S ([] : List UInt8))) rfl ?_)
  have q12 : (hdL h) = ([] : List UInt8) := by exact hE_
  have hH13 : Has E w9 [R] := (hH8.front 1 rfl).first 1 rfl
  exact ⟨by rw [q12], hH13⟩
 ·
  have h10_n : (hdR h) = true := by first | simpa using h10 | exact Bool.of_not_eq_false (fun g_ => by rw [g_] at h10; cases h10)
  have hR_ : hdR h = true := by simpa using h10
  have hu_ := hput hR_
  have hsl_ : (sealS [putS 8 [h.seq, h.ep, h.cut, h.st, h.mrk]].flatten).length = 44 := by rw [hu_, show [hdN h].flatten = hdN h by simp]; exact hseal_len h
  have hnl_ := hdN_len h
  refine wp_skip ?_
  refine zc (hK5 _ _ ?_)
  refine wp_seq_k fun K14 hK14 => ?_
  refine zb ?_
  refine za (zg (k := 0) (fun _ => by kernel_rfl) rfl ?_)
  refine za (zj (v := (.int .i64 h.seq)) Tryz.underlying3 rfl rfl hH8 (zh 0 rfl) (CellsAt.one rfl) ?_)
  refine za (zg (k := 1) (fun _ => by kernel_rfl) rfl ?_)
  refine za (zj (v := (.int .i64 h.ep)) Tryz.underlying3 rfl rfl hH8 (zh 0 rfl) (CellsAt.one rfl) ?_)
  refine za (zg (k := 2) (fun _ => by kernel_rfl) rfl ?_)
  refine za (zj (v := (.int .i64 h.cut)) Tryz.underlying3 rfl rfl hH8 (zh 0 rfl) (CellsAt.one rfl) ?_)
  refine za (zg (k := 3) (fun _ => by kernel_rfl) rfl ?_)
  refine za (zj (v := (.int .i64 h.st)) Tryz.underlying3 rfl rfl hH8 (zh 0 rfl) (CellsAt.one rfl) ?_)
  refine za (zg (k := 4) (fun _ => by kernel_rfl) rfl ?_)
  refine za (zj (v := (.int .i64 h.mrk)) Tryz.underlying3 rfl rfl hH8 (zh 0 rfl) (CellsAt.one rfl) ?_)
  refine za (zu (ps := #[(0, (.int .i64 h.seq)), (1, (.int .i64 h.ep)), (2, (.int .i64 h.cut)), (3, (.int .i64 h.st)), (4, (.int .i64 h.mrk))]) (cells := #[(.int .i64 h.seq), (.int .i64 h.ep), (.int .i64 h.cut), (.int .i64 h.st), (.int .i64 h.mrk)]) Tryz.underlying47 ti3 (by decide) (parts5 rfl rfl rfl rfl rfl) (by kernel_rfl) hH8 fun b15 w16 hH17 => ?_)
  refine za (zk (vs := #[(.int .i64 8), (.slice (some ⟨b15, 0, none⟩) 5 5)]) ca90 rfl (zI rfl rfl) (put_c hH17.all 8 (l := [h.seq, h.ep, h.cut, h.st, h.mrk]) ((zW (f := iV) (l := [h.seq, h.ep, h.cut, h.st, h.mrk]) rfl rfl (by simp)).mono (zh 0 rfl)) (by simp)) ?_)
  rintro _ w20 ⟨rfl, hX18⟩
  refine ⟨_, rfl, ?_⟩
  have hH19 := hX18.of_all
  refine za (zu (ps := #[(0, (S (putS 8 [h.seq, h.ep, h.cut, h.st, h.mrk])))]) (cells := #[(S (putS 8 [h.seq, h.ep, h.cut, h.st, h.mrk]))]) Tryz.underlying46 ti9 (by decide) (parts1 rfl) (by kernel_rfl) hH19 fun b21 w22 hH23 => ?_)
  refine za (zk (vs := #[(.slice (some ⟨b21, 0, none⟩) 1 1)]) ca89 rfl (zF rfl) (seal_c hH23.all (hg.mono (zh 3 rfl)) ((zW (f := sV) (l := [(putS 8 [h.seq, h.ep, h.cut, h.st, h.mrk])]) rfl rfl (by simp)).mono (zh 0 rfl)) (by simp) (by rw [hu_]; simp only [List.flatten_cons, List.flatten_nil, List.append_nil]; omega)) ?_)
  rintro _ w26 ⟨rfl, hX24⟩
  refine ⟨_, rfl, ?_⟩
  have hH25 := hX24.of_all
  refine za (ze (v := (S (sealS [(putS 8 [h.seq, h.ep, h.cut, h.st, h.mrk])].flatten))) rfl ?_)
  refine zf ?_
  refine zc (hK14 _ _ ?_)
  refine wp_seq_k fun K27 hK27 => ?_
  refine zb ?_
  refine za (zd (v := (S (sealS [(putS 8 [h.seq, h.ep, h.cut, h.st, h.mrk])].flatten))) rfl ?_)
  refine za (zd (v := (S (sealS [(putS 8 [h.seq, h.ep, h.cut, h.st, h.mrk])].flatten))) rfl ?_)
  refine za (yb Tryz.underlying9 rfl ?_)
  refine za (o_sub (a := 64) (b := ((sealS [(putS 8 [h.seq, h.ep, h.cut, h.st, h.mrk])].flatten).length : Int)) rfl rfl (w64 (by omega) (by omega)) ?_)
  obtain ⟨n28, hn28⟩ : ∃ n_ : Nat, 64 - ((sealS [(putS 8 [h.seq, h.ep, h.cut, h.st, h.mrk])].flatten).length : Int) = (n_ : Int) := ⟨(64 - ((sealS [(putS 8 [h.seq, h.ep, h.cut, h.st, h.mrk])].flatten).length : Int)).toNat, by omega⟩
  refine za (zk (vs := #[(S [0]), (.int .i64 (64 - ((sealS [(putS 8 [h.seq, h.ep, h.cut, h.st, h.mrk])].flatten).length : Int)))]) ca91 rfl (zI rfl rfl) ((by rw [hn28]; exact repeat_c hH25.all n28 (by omega))) ?_)
  rintro _ w31 ⟨rfl, hX29⟩
  refine ⟨_, rfl, ?_⟩
  have hH30 := hX29.of_all
  refine za (o_sadd rfl rfl (by rw [List.length_replicate]; omega) ?_)
  refine za (ze (v := (S ((sealS [(putS 8 [h.seq, h.ep, h.cut, h.st, h.mrk])].flatten) ++ (List.replicate n28 0)))) rfl ?_)
  refine zf ?_
  refine zc (hK27 _ _ ?_)
  refine wp_ret ?_
  refine zq Tryz.results13  (v := (S ((sealS [(putS 8 [h.seq, h.ep, h.cut, h.st, h.mrk])].flatten) ++ (List.replicate n28 0)))) rfl ?_
  have hE_ : hdL h = (sealS [(putS 8 [h.seq, h.ep, h.cut, h.st, h.mrk])].flatten) ++ (List.replicate n28 0) := by rw [hdL_yes hR_, hu_, show [hdN h].flatten = hdN h by simp, show n28 = 20 by omega]
  have q32 : (hdL h) = (sealS [(putS 8 [h.seq, h.ep, h.cut, h.st, h.mrk])].flatten) ++ (List.replicate n28 0) := by exact hE_
  have hH33 : Has E w31 [R] := (hH30.front 3 rfl).first 1 rfl
  exact ⟨by rw [q32], hH33⟩
end Go.Q
namespace Go.Q
section rounds
variable {P : Program} {Q : Exit → Act → World → Prop} {w : World} {N : Nat} {r : Nat → Value} {c : Code}
theorem u_loop (n : Nat) (h : Code.rounds P c Q n (fr N r) w) : (Code.loop c).wp P Q (fr N r) w := wp_loop_rounds n h
theorem u_round {m : Nat} (h : c.wp P (Exit.then (Code.rounds P c Q m) Q) (fr N r) w) : Code.rounds P c Q (m + 1) (fr N r) w := h
end rounds
end Go.Q
namespace Go.Q
open Go.Proofs
set_option linter.unusedVariables false
set_option maxRecDepth 100000
attribute [local irreducible] wpList OK Code.wp
set_option maxHeartbeats 4000000 in
theorem hread_c {E w : World} {R : List Hp} {s : Bs}  (hH : Has E w [R]) (hg : CellsAt R 0 0 nibV) (hs : s.length ≤ 1000000) :
  Calls Tryz.prog 190 #[(S s)] w fun e w' => e = .returned (.tuple #[(.agg #[(.int .i64 ((hdP s).1).seq), (.int .i64 ((hdP s).1).ep), (.int .i64 ((hdP s).1).cut), (.int .i64 ((hdP s).1).st), (.int .i64 ((hdP s).1).mrk)]), (.bool ((hdP s).2))]) ∧ Has E w' [R] := by
 have t1_ := z6 s 8
 have t2_ := z6 (takeS s 8).2.1 8
 have t3_ := z6 (takeS (takeS s 8).2.1 8).2.1 8
 have t4_ := z6 (takeS (takeS (takeS s 8).2.1 8).2.1 8).2.1 8
 refine zs (args := [(S s)]) Tryz.func190 rfl Tryz.ntmps190 (by simp) ?_
 refine wp_seq_k fun K1 hK1 => ?_
 refine zb ?_
 refine za (zU (cs := #[(.int .i64 0), (.int .i64 0), (.int .i64 0), (.int .i64 0), (.int .i64 0)]) zR rfl hH fun b2 w3 hH4 => ?_)
 refine za (ze (v := (.bool false)) rfl ?_)
 refine zf ?_
 refine zc (hK1 _ _ ?_)
 refine wp_seq_k fun K5 hK5 => ?_
 refine wp_seq_k fun K6 hK6 => ?_
 refine zb ?_
 refine za (zd (v := (S s)) rfl ?_)
 refine za (yb Tryz.underlying9 rfl ?_)
 refine za (o_neq (a := (s.length : Int)) (b := 64) rfl rfl ?_)
 refine zf ?_
 refine zc (hK6 _ _ ?_)
 refine zt rfl (fun h7 => ?_) (fun h7 => ?_)
 ·
  refine wp_seq_k fun K8 hK8 => ?_
  refine zb ?_
  refine za (zK (v := (.agg #[(.int .i64 0), (.int .i64 0), (.int .i64 0), (.int .i64 0), (.int .i64 0)])) (fun _ => by kernel_rfl) ?_)
  refine zB (zw (vs := [(.int .i64 0), (.int .i64 0), (.int .i64 0), (.int .i64 0), (.int .i64 0)]) (c' := #[(.int .i64 0), (.int .i64 0), (.int .i64 0), (.int .i64 0), (.int .i64 0)]) zR rfl rfl rfl rfl (by intro u hu; simp only [List.mem_cons, List.not_mem_nil, or_false] at hu; rcases hu with rfl | rfl | rfl | rfl | rfl <;> first | rfl) (by simp) (by kernel_rfl) (hH4.front 0 rfl) fun w9 hH10 => ?_)
  refine za (ze (v := (.bool false)) rfl ?_)
  refine zf ?_
  refine zc (hK8 _ _ ?_)
  refine wp_ret ?_
  refine zv (zZ Tryz.results190 rfl (zy (cs := [(.int .i64 0), (.int .i64 0), (.int .i64 0), (.int .i64 0), (.int .i64 0)]) Tryz.underlying23 rfl zR hH10 (zh 0 rfl) (CellsAt.one rfl)) (x := (.bool false)) rfl ?_)
  have hE_ := hdP_no (s := s) (.inl (by omega))
  have q11 : (hdP s).1 = (Hd.mk 0 0 0 0 0) := by exact (congrArg Prod.fst hE_).trans rfl
  have q12 : (hdP s).2 = false := by exact (congrArg Prod.snd hE_).trans rfl
  have hH13 : Has E w9 [R] := (hH10.front 1 rfl).first 1 rfl
  exact ⟨by rw [q11]; rw [q12], hH13⟩
 ·
  refine wp_skip ?_
  refine zc (hK5 _ _ ?_)
  refine wp_seq_k fun K14 hK14 => ?_
  refine zb ?_
  refine za (zU (cs := #[(.int .i64 0), (.int .i64 0), (.int .i64 0), (.int .i64 0), (.int .i64 0)]) zR rfl hH4 fun b15 w16 hH17 => ?_)
  refine zf ?_
  refine zc (hK14 _ _ ?_)
  refine wp_seq_k fun K18 hK18 => ?_
  refine zb ?_
  refine za (zd (v := (S s)) rfl ?_)
  refine za (ze (v := (S s)) rfl ?_)
  refine zf ?_
  refine zc (hK18 _ _ ?_)
  refine wp_seq_k fun K19 hK19 => ?_
  refine wp_seq_k fun K20 hK20 => ?_
  refine zb ?_
  refine za (zg (k := 0) (fun _ => by kernel_rfl) rfl ?_)
  refine za (zg (k := 1) (fun _ => by kernel_rfl) rfl ?_)
  refine za (zg (k := 2) (fun _ => by kernel_rfl) rfl ?_)
  refine za (zg (k := 3) (fun _ => by kernel_rfl) rfl ?_)
  refine za (zg (k := 4) (fun _ => by kernel_rfl) rfl ?_)
  refine za (zu (ps := #[(0, (.pointer (some ⟨b15, 0, none⟩))), (1, (.pointer (some ⟨b15, 1, none⟩))), (2, (.pointer (some ⟨b15, 2, none⟩))), (3, (.pointer (some ⟨b15, 3, none⟩))), (4, (.pointer (some ⟨b15, 4, none⟩)))]) (cells := #[(.pointer (some ⟨b15, 0, none⟩)), (.pointer (some ⟨b15, 1, none⟩)), (.pointer (some ⟨b15, 2, none⟩)), (.pointer (some ⟨b15, 3, none⟩)), (.pointer (some ⟨b15, 4, none⟩))]) Tryz.underlying368 ti367 (by decide) (parts5 rfl rfl rfl rfl rfl) (by kernel_rfl) hH17 fun b21 w22 hH23 => ?_)
  refine za (zY Tryz.underlying368 rfl (zW (f := (fpV b15)) (l := [0, 1, 2, 3, 4]) (g := (0, 0)) (T := 367) rfl rfl (by simp)) ?_)
  refine za (zd (v := (.int .i64 0)) rfl ?_)
  refine zf ?_
  refine zc (hK20 _ _ ?_)
  refine wp_block ?_
  refine u_loop 6 (u_round ?_)
  refine wp_seq_k fun K24 hK24 => ?_
  refine zb ?_
  refine za (zL (a := 0) (b := 5) rfl rfl ?_)
  refine zf ?_
  refine zc (hK24 _ _ ?_)
  refine wp_seq_k fun K25 hK25 => ?_
  refine zN rfl rfl ?_
  refine wp_skip ?_
  refine zc (hK25 _ _ ?_)
  refine wp_seq_k fun K26 hK26 => ?_
  refine wp_block ?_
  refine wp_seq_k fun K27 hK27 => ?_
  refine zb ?_
  refine za (yc Tryz.underlying368 ti367 rfl (zW (f := (fpV b15)) (l := [0, 1, 2, 3, 4]) (g := (0, 0)) (T := 367) rfl rfl (by simp)) rfl (by omega) (show [0, 1, 2, 3, 4][((0 : Int)).toNat]? = some 0 from rfl) fun b28 o29 hc30 => ?_)
  refine za (zj (v := (.pointer (some ⟨b15, 0, none⟩))) Tryz.underlying367 rfl rfl hH23 (zh 0 rfl) hc30 ?_)
  refine za (ze (v := (.pointer (some ⟨b15, 0, none⟩))) rfl ?_)
  refine zf ?_
  refine zc (hK27 _ _ ?_)
  refine zb ?_
  refine za (zd (v := (.pointer (some ⟨b15, 0, none⟩))) rfl ?_)
  refine za (zd (v := (S s)) rfl ?_)
  refine za (zk (vs := #[(S s), (.int .i64 8)]) ca276 rfl (zI rfl rfl) (take_c hH23.all 8 s (by omega)) ?_)
  rintro _ w33 ⟨rfl, hX31⟩
  refine ⟨_, rfl, ?_⟩
  have hH32 := hX31.of_all
  refine za (zd (v := (.tuple #[(.int .i64 ((takeS s 8).1)), (S ((takeS s 8).2.1)), (.bool ((takeS s 8).2.2))])) rfl ?_)
  refine za (zp (v := (.int .i64 ((takeS s 8).1))) rfl rfl ?_)
  refine za (zp (v := (S ((takeS s 8).2.1))) rfl rfl ?_)
  refine za (zp (v := (.bool ((takeS s 8).2.2))) rfl rfl ?_)
  refine za (zl rfl ?_)
  refine zB (zJ (c' := #[(.int .i64 ((takeS s 8).1)), (.int .i64 0), (.int .i64 0), (.int .i64 0), (.int .i64 0)]) ti3 rfl rfl rfl (by simp) rfl (hH32.front 1 rfl) fun w34 hH35 => ?_)
  refine za (ze (v := (S ((takeS s 8).2.1))) rfl ?_)
  refine zf ?_
  refine zG ?_
  refine zc (hK26 _ _ ?_)
  refine zb ?_
  refine za (zH (a := 0) (b := 1) (c := 1) rfl rfl (by decide) ?_)
  refine za (zd (v := (.int .i64 1)) rfl ?_)
  refine zf ?_
  refine zc (u_round ?_)
  refine wp_seq_k fun K36 hK36 => ?_
  refine zb ?_
  refine za (zL (a := 1) (b := 5) rfl rfl ?_)
  refine zf ?_
  refine zc (hK36 _ _ ?_)
  refine wp_seq_k fun K37 hK37 => ?_
  refine zN rfl rfl ?_
  refine wp_skip ?_
  refine zc (hK37 _ _ ?_)
  refine wp_seq_k fun K38 hK38 => ?_
  refine wp_block ?_
  refine wp_seq_k fun K39 hK39 => ?_
  refine zb ?_
  refine za (yc Tryz.underlying368 ti367 rfl (zW (f := (fpV b15)) (l := [0, 1, 2, 3, 4]) (g := (0, 0)) (T := 367) rfl rfl (by simp)) rfl (by omega) (show [0, 1, 2, 3, 4][((1 : Int)).toNat]? = some 1 from rfl) fun b40 o41 hc42 => ?_)
  refine za (zj (v := (.pointer (some ⟨b15, 1, none⟩))) Tryz.underlying367 rfl rfl hH35 (zh 1 rfl) hc42 ?_)
  refine za (ze (v := (.pointer (some ⟨b15, 1, none⟩))) rfl ?_)
  refine zf ?_
  refine zc (hK39 _ _ ?_)
  refine zb ?_
  refine za (zd (v := (.pointer (some ⟨b15, 1, none⟩))) rfl ?_)
  refine za (zd (v := (S ((takeS s 8).2.1))) rfl ?_)
  refine za (zk (vs := #[(S ((takeS s 8).2.1)), (.int .i64 8)]) ca276 rfl (zI rfl rfl) (take_c hH35.all 8 ((takeS s 8).2.1) (by omega)) ?_)
  rintro _ w45 ⟨rfl, hX43⟩
  refine ⟨_, rfl, ?_⟩
  have hH44 := hX43.of_all
  refine za (zd (v := (.tuple #[(.int .i64 ((takeS ((takeS s 8).2.1) 8).1)), (S ((takeS ((takeS s 8).2.1) 8).2.1)), (.bool ((takeS ((takeS s 8).2.1) 8).2.2))])) rfl ?_)
  refine za (zp (v := (.int .i64 ((takeS ((takeS s 8).2.1) 8).1))) rfl rfl ?_)
  refine za (zp (v := (S ((takeS ((takeS s 8).2.1) 8).2.1))) rfl rfl ?_)
  refine za (zp (v := (.bool ((takeS ((takeS s 8).2.1) 8).2.2))) rfl rfl ?_)
  refine za (zl rfl ?_)
  refine zB (zJ (c' := #[(.int .i64 ((takeS s 8).1)), (.int .i64 ((takeS ((takeS s 8).2.1) 8).1)), (.int .i64 0), (.int .i64 0), (.int .i64 0)]) ti3 rfl rfl rfl (by simp) rfl (hH44.front 0 rfl) fun w46 hH47 => ?_)
  refine za (ze (v := (S ((takeS ((takeS s 8).2.1) 8).2.1))) rfl ?_)
  refine zf ?_
  refine zG ?_
  refine zc (hK38 _ _ ?_)
  refine zb ?_
  refine za (zH (a := 1) (b := 1) (c := 2) rfl rfl (by decide) ?_)
  refine za (zd (v := (.int .i64 2)) rfl ?_)
  refine zf ?_
  refine zc (u_round ?_)
  refine wp_seq_k fun K48 hK48 => ?_
  refine zb ?_
  refine za (zL (a := 2) (b := 5) rfl rfl ?_)
  refine zf ?_
  refine zc (hK48 _ _ ?_)
  refine wp_seq_k fun K49 hK49 => ?_
  refine zN rfl rfl ?_
  refine wp_skip ?_
  refine zc (hK49 _ _ ?_)
  refine wp_seq_k fun K50 hK50 => ?_
  refine wp_block ?_
  refine wp_seq_k fun K51 hK51 => ?_
  refine zb ?_
  refine za (yc Tryz.underlying368 ti367 rfl (zW (f := (fpV b15)) (l := [0, 1, 2, 3, 4]) (g := (0, 0)) (T := 367) rfl rfl (by simp)) rfl (by omega) (show [0, 1, 2, 3, 4][((2 : Int)).toNat]? = some 2 from rfl) fun b52 o53 hc54 => ?_)
  refine za (zj (v := (.pointer (some ⟨b15, 2, none⟩))) Tryz.underlying367 rfl rfl hH47 (zh 1 rfl) hc54 ?_)
  refine za (ze (v := (.pointer (some ⟨b15, 2, none⟩))) rfl ?_)
  refine zf ?_
  refine zc (hK51 _ _ ?_)
  refine zb ?_
  refine za (zd (v := (.pointer (some ⟨b15, 2, none⟩))) rfl ?_)
  refine za (zd (v := (S ((takeS ((takeS s 8).2.1) 8).2.1))) rfl ?_)
  refine za (zk (vs := #[(S ((takeS ((takeS s 8).2.1) 8).2.1)), (.int .i64 8)]) ca276 rfl (zI rfl rfl) (take_c hH47.all 8 ((takeS ((takeS s 8).2.1) 8).2.1) (by omega)) ?_)
  rintro _ w57 ⟨rfl, hX55⟩
  refine ⟨_, rfl, ?_⟩
  have hH56 := hX55.of_all
  refine za (zd (v := (.tuple #[(.int .i64 ((takeS ((takeS ((takeS s 8).2.1) 8).2.1) 8).1)), (S ((takeS ((takeS ((takeS s 8).2.1) 8).2.1) 8).2.1)), (.bool ((takeS ((takeS ((takeS s 8).2.1) 8).2.1) 8).2.2))])) rfl ?_)
  refine za (zp (v := (.int .i64 ((takeS ((takeS ((takeS s 8).2.1) 8).2.1) 8).1))) rfl rfl ?_)
  refine za (zp (v := (S ((takeS ((takeS ((takeS s 8).2.1) 8).2.1) 8).2.1))) rfl rfl ?_)
  refine za (zp (v := (.bool ((takeS ((takeS ((takeS s 8).2.1) 8).2.1) 8).2.2))) rfl rfl ?_)
  refine za (zl rfl ?_)
  refine zB (zJ (c' := #[(.int .i64 ((takeS s 8).1)), (.int .i64 ((takeS ((takeS s 8).2.1) 8).1)), (.int .i64 ((takeS ((takeS ((takeS s 8).2.1) 8).2.1) 8).1)), (.int .i64 0), (.int .i64 0)]) ti3 rfl rfl rfl (by simp) rfl (hH56.front 0 rfl) fun w58 hH59 => ?_)
  refine za (ze (v := (S ((takeS ((takeS ((takeS s 8).2.1) 8).2.1) 8).2.1))) rfl ?_)
  refine zf ?_
  refine zG ?_
  refine zc (hK50 _ _ ?_)
  refine zb ?_
  refine za (zH (a := 2) (b := 1) (c := 3) rfl rfl (by decide) ?_)
  refine za (zd (v := (.int .i64 3)) rfl ?_)
  refine zf ?_
  refine zc (u_round ?_)
  refine wp_seq_k fun K60 hK60 => ?_
  refine zb ?_
  refine za (zL (a := 3) (b := 5) rfl rfl ?_)
  refine zf ?_
  refine zc (hK60 _ _ ?_)
  refine wp_seq_k fun K61 hK61 => ?_
  refine zN rfl rfl ?_
  refine wp_skip ?_
  refine zc (hK61 _ _ ?_)
  refine wp_seq_k fun K62 hK62 => ?_
  refine wp_block ?_
  refine wp_seq_k fun K63 hK63 => ?_
  refine zb ?_
  refine za (yc Tryz.underlying368 ti367 rfl (zW (f := (fpV b15)) (l := [0, 1, 2, 3, 4]) (g := (0, 0)) (T := 367) rfl rfl (by simp)) rfl (by omega) (show [0, 1, 2, 3, 4][((3 : Int)).toNat]? = some 3 from rfl) fun b64 o65 hc66 => ?_)
  refine za (zj (v := (.pointer (some ⟨b15, 3, none⟩))) Tryz.underlying367 rfl rfl hH59 (zh 1 rfl) hc66 ?_)
  refine za (ze (v := (.pointer (some ⟨b15, 3, none⟩))) rfl ?_)
  refine zf ?_
  refine zc (hK63 _ _ ?_)
  refine zb ?_
  refine za (zd (v := (.pointer (some ⟨b15, 3, none⟩))) rfl ?_)
  refine za (zd (v := (S ((takeS ((takeS ((takeS s 8).2.1) 8).2.1) 8).2.1))) rfl ?_)
  refine za (zk (vs := #[(S ((takeS ((takeS ((takeS s 8).2.1) 8).2.1) 8).2.1)), (.int .i64 8)]) ca276 rfl (zI rfl rfl) (take_c hH59.all 8 ((takeS ((takeS ((takeS s 8).2.1) 8).2.1) 8).2.1) (by omega)) ?_)
  rintro _ w69 ⟨rfl, hX67⟩
  refine ⟨_, rfl, ?_⟩
  have hH68 := hX67.of_all
  refine za (zd (v := (.tuple #[(.int .i64 ((takeS ((takeS ((takeS ((takeS s 8).2.1) 8).2.1) 8).2.1) 8).1)), (S ((takeS ((takeS ((takeS ((takeS s 8).2.1) 8).2.1) 8).2.1) 8).2.1)), (.bool ((takeS ((takeS ((takeS ((takeS s 8).2.1) 8).2.1) 8).2.1) 8).2.2))])) rfl ?_)
  refine za (zp (v := (.int .i64 ((takeS ((takeS ((takeS ((takeS s 8).2.1) 8).2.1) 8).2.1) 8).1))) rfl rfl ?_)
  refine za (zp (v := (S ((takeS ((takeS ((takeS ((takeS s 8).2.1) 8).2.1) 8).2.1) 8).2.1))) rfl rfl ?_)
  refine za (zp (v := (.bool ((takeS ((takeS ((takeS ((takeS s 8).2.1) 8).2.1) 8).2.1) 8).2.2))) rfl rfl ?_)
  refine za (zl rfl ?_)
  refine zB (zJ (c' := #[(.int .i64 ((takeS s 8).1)), (.int .i64 ((takeS ((takeS s 8).2.1) 8).1)), (.int .i64 ((takeS ((takeS ((takeS s 8).2.1) 8).2.1) 8).1)), (.int .i64 ((takeS ((takeS ((takeS ((takeS s 8).2.1) 8).2.1) 8).2.1) 8).1)), (.int .i64 0)]) ti3 rfl rfl rfl (by simp) rfl (hH68.front 0 rfl) fun w70 hH71 => ?_)
  refine za (ze (v := (S ((takeS ((takeS ((takeS ((takeS s 8).2.1) 8).2.1) 8).2.1) 8).2.1))) rfl ?_)
  refine zf ?_
  refine zG ?_
  refine zc (hK62 _ _ ?_)
  refine zb ?_
  refine za (zH (a := 3) (b := 1) (c := 4) rfl rfl (by decide) ?_)
  refine za (zd (v := (.int .i64 4)) rfl ?_)
  refine zf ?_
  refine zc (u_round ?_)
  refine wp_seq_k fun K72 hK72 => ?_
  refine zb ?_
  refine za (zL (a := 4) (b := 5) rfl rfl ?_)
  refine zf ?_
  refine zc (hK72 _ _ ?_)
  refine wp_seq_k fun K73 hK73 => ?_
  refine zN rfl rfl ?_
  refine wp_skip ?_
  refine zc (hK73 _ _ ?_)
  refine wp_seq_k fun K74 hK74 => ?_
  refine wp_block ?_
  refine wp_seq_k fun K75 hK75 => ?_
  refine zb ?_
  refine za (yc Tryz.underlying368 ti367 rfl (zW (f := (fpV b15)) (l := [0, 1, 2, 3, 4]) (g := (0, 0)) (T := 367) rfl rfl (by simp)) rfl (by omega) (show [0, 1, 2, 3, 4][((4 : Int)).toNat]? = some 4 from rfl) fun b76 o77 hc78 => ?_)
  refine za (zj (v := (.pointer (some ⟨b15, 4, none⟩))) Tryz.underlying367 rfl rfl hH71 (zh 1 rfl) hc78 ?_)
  refine za (ze (v := (.pointer (some ⟨b15, 4, none⟩))) rfl ?_)
  refine zf ?_
  refine zc (hK75 _ _ ?_)
  refine zb ?_
  refine za (zd (v := (.pointer (some ⟨b15, 4, none⟩))) rfl ?_)
  refine za (zd (v := (S ((takeS ((takeS ((takeS ((takeS s 8).2.1) 8).2.1) 8).2.1) 8).2.1))) rfl ?_)
  refine za (zk (vs := #[(S ((takeS ((takeS ((takeS ((takeS s 8).2.1) 8).2.1) 8).2.1) 8).2.1)), (.int .i64 8)]) ca276 rfl (zI rfl rfl) (take_c hH71.all 8 ((takeS ((takeS ((takeS ((takeS s 8).2.1) 8).2.1) 8).2.1) 8).2.1) (by omega)) ?_)
  rintro _ w81 ⟨rfl, hX79⟩
  refine ⟨_, rfl, ?_⟩
  have hH80 := hX79.of_all
  refine za (zd (v := (.tuple #[(.int .i64 ((takeS ((takeS ((takeS ((takeS ((takeS s 8).2.1) 8).2.1) 8).2.1) 8).2.1) 8).1)), (S ((takeS ((takeS ((takeS ((takeS ((takeS s 8).2.1) 8).2.1) 8).2.1) 8).2.1) 8).2.1)), (.bool ((takeS ((takeS ((takeS ((takeS ((takeS s 8).2.1) 8).2.1) 8).2.1) 8).2.1) 8).2.2))])) rfl ?_)
  refine za (zp (v := (.int .i64 ((takeS ((takeS ((takeS ((takeS ((takeS s 8).2.1) 8).2.1) 8).2.1) 8).2.1) 8).1))) rfl rfl ?_)
  refine za (zp (v := (S ((takeS ((takeS ((takeS ((takeS ((takeS s 8).2.1) 8).2.1) 8).2.1) 8).2.1) 8).2.1))) rfl rfl ?_)
  refine za (zp (v := (.bool ((takeS ((takeS ((takeS ((takeS ((takeS s 8).2.1) 8).2.1) 8).2.1) 8).2.1) 8).2.2))) rfl rfl ?_)
  refine za (zl rfl ?_)
  refine zB (zJ (c' := #[(.int .i64 ((takeS s 8).1)), (.int .i64 ((takeS ((takeS s 8).2.1) 8).1)), (.int .i64 ((takeS ((takeS ((takeS s 8).2.1) 8).2.1) 8).1)), (.int .i64 ((takeS ((takeS ((takeS ((takeS s 8).2.1) 8).2.1) 8).2.1) 8).1)), (.int .i64 ((takeS ((takeS ((takeS ((takeS ((takeS s 8).2.1) 8).2.1) 8).2.1) 8).2.1) 8).1))]) ti3 rfl rfl rfl (by simp) rfl (hH80.front 0 rfl) fun w82 hH83 => ?_)
  refine za (ze (v := (S ((takeS ((takeS ((takeS ((takeS ((takeS s 8).2.1) 8).2.1) 8).2.1) 8).2.1) 8).2.1))) rfl ?_)
  refine zf ?_
  refine zG ?_
  refine zc (hK74 _ _ ?_)
  refine zb ?_
  refine za (zH (a := 4) (b := 1) (c := 5) rfl rfl (by decide) ?_)
  refine za (zd (v := (.int .i64 5)) rfl ?_)
  refine zf ?_
  refine zc (u_round ?_)
  refine wp_seq_k fun K84 hK84 => ?_
  refine zb ?_
  refine za (zL (a := 5) (b := 5) rfl rfl ?_)
  refine zf ?_
  refine zc (hK84 _ _ ?_)
  refine wp_seq_k fun K85 hK85 => ?_
  refine zS rfl rfl ?_
  refine wp_exit ?_
  refine zx (zx (x_in (?_)))
  refine zc (hK19 _ _ ?_)
  refine wp_seq_k fun K86 hK86 => ?_
  refine wp_seq_k fun K87 hK87 => ?_
  refine zb ?_
  refine za (zC (cs := [(.int .i64 ((takeS s 8).1)), (.int .i64 ((takeS ((takeS s 8).2.1) 8).1)), (.int .i64 ((takeS ((takeS ((takeS s 8).2.1) 8).2.1) 8).1)), (.int .i64 ((takeS ((takeS ((takeS ((takeS s 8).2.1) 8).2.1) 8).2.1) 8).1)), (.int .i64 ((takeS ((takeS ((takeS ((takeS ((takeS s 8).2.1) 8).2.1) 8).2.1) 8).2.1) 8).1))]) Tryz.underlying23 rfl zR rfl hH83 (zh 0 rfl) (CellsAt.one rfl) ?_)
  refine za (zk (vs := #[(.agg #[(.int .i64 ((takeS s 8).1)), (.int .i64 ((takeS ((takeS s 8).2.1) 8).1)), (.int .i64 ((takeS ((takeS ((takeS s 8).2.1) 8).2.1) 8).1)), (.int .i64 ((takeS ((takeS ((takeS ((takeS s 8).2.1) 8).2.1) 8).2.1) 8).1)), (.int .i64 ((takeS ((takeS ((takeS ((takeS ((takeS s 8).2.1) 8).2.1) 8).2.1) 8).2.1) 8).1))])]) ca13 rfl (zF rfl) (hlaid_c (h := (Hd.mk ((takeS s 8).1) ((takeS ((takeS s 8).2.1) 8).1) ((takeS ((takeS ((takeS s 8).2.1) 8).2.1) 8).1) ((takeS ((takeS ((takeS ((takeS s 8).2.1) 8).2.1) 8).2.1) 8).1) ((takeS ((takeS ((takeS ((takeS ((takeS s 8).2.1) 8).2.1) 8).2.1) 8).2.1) 8).1))) hH83.all (hg.mono (zh 3 rfl))) ?_)
  rintro _ w90 ⟨rfl, hX88⟩
  refine ⟨_, rfl, ?_⟩
  have hH89 := hX88.of_all
  refine za (zd (v := (S s)) rfl ?_)
  refine za (o_sneq (a := (hdL (Hd.mk ((takeS s 8).1) ((takeS ((takeS s 8).2.1) 8).1) ((takeS ((takeS ((takeS s 8).2.1) 8).2.1) 8).1) ((takeS ((takeS ((takeS ((takeS s 8).2.1) 8).2.1) 8).2.1) 8).1) ((takeS ((takeS ((takeS ((takeS ((takeS s 8).2.1) 8).2.1) 8).2.1) 8).2.1) 8).1)))) (b := s) rfl rfl ?_)
  refine zf ?_
  refine zc (hK87 _ _ ?_)
  refine zt rfl (fun h91 => ?_) (fun h91 => ?_)
  ·
   refine wp_seq_k fun K92 hK92 => ?_
   refine zb ?_
   refine za (zK (v := (.agg #[(.int .i64 0), (.int .i64 0), (.int .i64 0), (.int .i64 0), (.int .i64 0)])) (fun _ => by kernel_rfl) ?_)
   refine zB (zw (vs := [(.int .i64 0), (.int .i64 0), (.int .i64 0), (.int .i64 0), (.int .i64 0)]) (c' := #[(.int .i64 0), (.int .i64 0), (.int .i64 0), (.int .i64 0), (.int .i64 0)]) zR rfl rfl rfl rfl (by intro u hu; simp only [List.mem_cons, List.not_mem_nil, or_false] at hu; rcases hu with rfl | rfl | rfl | rfl | rfl <;> first | rfl) (by simp) (by kernel_rfl) (hH89.front 2 rfl) fun w93 hH94 => ?_)
   refine za (ze (v := (.bool false)) rfl ?_)
   refine zf ?_
   refine zc (hK92 _ _ ?_)
   refine wp_ret ?_
   refine zv (zZ Tryz.results190 rfl (zy (cs := [(.int .i64 0), (.int .i64 0), (.int .i64 0), (.int .i64 0), (.int .i64 0)]) Tryz.underlying23 rfl zR hH94 (zh 0 rfl) (CellsAt.one rfl)) (x := (.bool false)) rfl ?_)
   have hE_ := hdP_no (s := s) (.inr h91)
   have q95 : (hdP s).1 = (Hd.mk 0 0 0 0 0) := by exact (congrArg Prod.fst hE_).trans rfl
   have q96 : (hdP s).2 = false := by exact (congrArg Prod.snd hE_).trans rfl
   have hH97 : Has E w93 [R] := (hH94.front 3 rfl).first 1 rfl
   exact ⟨by rw [q95]; rw [q96], hH97⟩
  ·
   refine wp_skip ?_
   refine zc (hK86 _ _ ?_)
   refine wp_seq_k fun K98 hK98 => ?_
   refine zb ?_
   refine za (zC (cs := [(.int .i64 ((takeS s 8).1)), (.int .i64 ((takeS ((takeS s 8).2.1) 8).1)), (.int .i64 ((takeS ((takeS ((takeS s 8).2.1) 8).2.1) 8).1)), (.int .i64 ((takeS ((takeS ((takeS ((takeS s 8).2.1) 8).2.1) 8).2.1) 8).1)), (.int .i64 ((takeS ((takeS ((takeS ((takeS ((takeS s 8).2.1) 8).2.1) 8).2.1) 8).2.1) 8).1))]) Tryz.underlying23 rfl zR rfl hH89 (zh 0 rfl) (CellsAt.one rfl) ?_)
   refine zB (zw (vs := [(.int .i64 ((takeS s 8).1)), (.int .i64 ((takeS ((takeS s 8).2.1) 8).1)), (.int .i64 ((takeS ((takeS ((takeS s 8).2.1) 8).2.1) 8).1)), (.int .i64 ((takeS ((takeS ((takeS ((takeS s 8).2.1) 8).2.1) 8).2.1) 8).1)), (.int .i64 ((takeS ((takeS ((takeS ((takeS ((takeS s 8).2.1) 8).2.1) 8).2.1) 8).2.1) 8).1))]) (c' := #[(.int .i64 ((takeS s 8).1)), (.int .i64 ((takeS ((takeS s 8).2.1) 8).1)), (.int .i64 ((takeS ((takeS ((takeS s 8).2.1) 8).2.1) 8).1)), (.int .i64 ((takeS ((takeS ((takeS ((takeS s 8).2.1) 8).2.1) 8).2.1) 8).1)), (.int .i64 ((takeS ((takeS ((takeS ((takeS ((takeS s 8).2.1) 8).2.1) 8).2.1) 8).2.1) 8).1))]) zR rfl rfl rfl rfl (by intro u hu; simp only [List.mem_cons, List.not_mem_nil, or_false] at hu; rcases hu with rfl | rfl | rfl | rfl | rfl <;> first | rfl) (by simp) (by kernel_rfl) (hH89.front 2 rfl) fun w99 hH100 => ?_)
   refine za (ze (v := (.bool true)) rfl ?_)
   refine zf ?_
   refine zc (hK98 _ _ ?_)
   refine wp_ret ?_
   refine zZ Tryz.results190 rfl (zy (cs := [(.int .i64 ((takeS s 8).1)), (.int .i64 ((takeS ((takeS s 8).2.1) 8).1)), (.int .i64 ((takeS ((takeS ((takeS s 8).2.1) 8).2.1) 8).1)), (.int .i64 ((takeS ((takeS ((takeS ((takeS s 8).2.1) 8).2.1) 8).2.1) 8).1)), (.int .i64 ((takeS ((takeS ((takeS ((takeS ((takeS s 8).2.1) 8).2.1) 8).2.1) 8).2.1) 8).1))]) Tryz.underlying23 rfl zR hH100 (zh 0 rfl) (CellsAt.one rfl)) (x := (.bool true)) rfl ?_
   have hE_ := hdP_yes (s := s) (by omega) (Classical.not_not.1 h91)
   have q101 : (hdP s).1 = (Hd.mk ((takeS s 8).1) ((takeS ((takeS s 8).2.1) 8).1) ((takeS ((takeS ((takeS s 8).2.1) 8).2.1) 8).1) ((takeS ((takeS ((takeS ((takeS s 8).2.1) 8).2.1) 8).2.1) 8).1) ((takeS ((takeS ((takeS ((takeS ((takeS s 8).2.1) 8).2.1) 8).2.1) 8).2.1) 8).1)) := by exact (congrArg Prod.fst hE_).trans rfl
   have q102 : (hdP s).2 = true := by exact (congrArg Prod.snd hE_).trans rfl
   have hH103 : Has E w99 [R] := (hH100.front 3 rfl).first 1 rfl
   exact ⟨by rw [q101]; rw [q102], hH103⟩
end Go.Q
namespace Go.Q
open Go.Proofs
set_option linter.unusedVariables false
set_option maxRecDepth 100000
attribute [local irreducible] wpList OK Code.wp
set_option maxHeartbeats 4000000 in
theorem there_c {E w : World} {R sg : List Hp} {pb db : Nat} {p : Pw} {la : List Bs} {lo : List (Int × Bs)} (hH : Has E w [sg, [Hp.one pb (.cells #[(.bool p.off), (.bool p.armed), (.int .i64 p.left), (.int .i64 p.uses)] 145 (0, 0))], R]) (hd : DevAt pb sg db la lo) (x : Int) :
  Calls Tryz.prog 187 #[(.pointer (some ⟨db, 0, none⟩)), (.int .i64 x)] w fun e w' => e = .returned (.int .i64 (thE p la.length x)) ∧ Has E w' [sg, [Hp.one pb (.cells #[(.bool p.off), (.bool p.armed), (.int .i64 p.left), (.int .i64 p.uses)] 145 (0, 0))], R] := by
 have hln_ : la.length ≤ 9223372036854775807 := by obtain ⟨_, _, _, _, _, _, h_, _⟩ := hd; exact h_.sl.le
 refine zs (args := [(.pointer (some ⟨db, 0, none⟩)), (.int .i64 x)]) Tryz.func187 rfl Tryz.ntmps187 (by simp) ?_
 refine wp_seq_k fun K1 hK1 => ?_
 refine zb ?_
 refine za (ze (v := (.int .i64 0)) rfl ?_)
 refine zf ?_
 refine zc (hK1 _ _ ?_)
 refine wp_seq_k fun K2 hK2 => ?_
 refine wp_block ?_
 refine wp_seq_k fun K3 hK3 => ?_
 refine zb ?_
 refine za (zd (v := (.int .i64 x)) rfl ?_)
 refine za (zL (a := x) (b := 0) rfl rfl ?_)
 refine za (zd (v := (.bool (decide (x < 0)))) rfl ?_)
 by_cases h4 : x < 0
 ·
  refine zi (b' := true) 8 rfl (cT h4) rfl ?_
  refine zi (b' := true) 8 rfl (cT h4) rfl ?_
  refine zi (b' := true) 8 rfl (cT h4) rfl ?_
  refine zi (b' := true) 8 rfl (cT h4) rfl ?_
  refine zi (b' := true) 8 rfl (cT h4) rfl ?_
  refine za (zo (u := (.bool true)) ((rfl : _ = _).trans (cT h4)) rfl ?_)
  refine za (ze (v := (.bool true)) rfl ?_)
  refine zf ?_
  refine zc (hK3 _ _ ?_)
  refine zN rfl rfl ?_
  refine wp_seq_k fun K5 hK5 => ?_
  refine zb ?_
  refine za (ze (v := (.int .i64 1)) rfl ?_)
  refine zf ?_
  refine zc (hK5 _ _ ?_)
  refine wp_ret ?_
  refine b_ret (zv (zq Tryz.results187  (v := (.int .i64 1)) rfl ?_))
  exact ⟨by rw [thE_arg (by omega)], hH⟩
 ·
  refine zn 8 rfl (cF h4) (zd (v := (.int .i64 x)) rfl ?_)
  refine zn 8 rfl (cF h4) (zd (v := (.pointer (some ⟨db, 0, none⟩))) rfl ?_)
  refine zn 8 rfl (cF h4) (zk (vs := #[(.pointer (some ⟨db, 0, none⟩))]) ca85 rfl (zF rfl) (sectors_d (p := p) (la := la) (lo := lo) ((hH.front 1 rfl).front 1 rfl).all2 hd ) ?_)
  rintro _ w8 ⟨rfl, hX6⟩
  refine ⟨_, rfl, ?_⟩
  have hH7 : Has E w8 [sg, [Hp.one pb (.cells #[(.bool p.off), (.bool p.armed), (.int .i64 p.left), (.int .i64 p.uses)] 145 (0, 0))], R] := hX6.of_all2
  refine zn 8 rfl (cF h4) (o_sub (a := ((la.length : Nat) : Int)) (b := 1) rfl rfl (w64 (by omega) (by omega)) ?_)
  refine zn 8 rfl (cF h4) (o_geq (a := x) (b := ((la.length : Nat) : Int) - 1) rfl rfl ?_)
  refine za (zm (u := (.bool (decide (((la.length : Nat) : Int) - 1 ≤ x)))) ((rfl : _ = _).trans (cF h4)) rfl ?_)
  refine za (ze (v := (.bool (decide (((la.length : Nat) : Int) - 1 ≤ x)))) rfl ?_)
  refine zf ?_
  refine zc (hK3 _ _ ?_)
  refine zt rfl (fun h9 => ?_) (fun h9 => ?_)
  ·
   refine wp_seq_k fun K10 hK10 => ?_
   refine zb ?_
   refine za (ze (v := (.int .i64 1)) rfl ?_)
   refine zf ?_
   refine zc (hK10 _ _ ?_)
   refine wp_ret ?_
   refine b_ret (zv (zq Tryz.results187  (v := (.int .i64 1)) rfl ?_))
   exact ⟨by rw [thE_arg (by omega)], hH7⟩
  ·
   refine wp_seq_k fun K11 hK11 => ?_
   refine zb ?_
   refine za (zd (v := (.pointer (some ⟨db, 0, none⟩))) rfl ?_)
   refine za (zk (vs := #[(.pointer (some ⟨db, 0, none⟩))]) ca186 rfl (zF rfl) (don_d (p := p) (la := la) (lo := lo) ((hH7.front 1 rfl).front 1 rfl).all2 hd ) ?_)
   rintro _ w14 ⟨rfl, hX12⟩
   refine ⟨_, rfl, ?_⟩
   have hH13 : Has E w14 [sg, [Hp.one pb (.cells #[(.bool p.off), (.bool p.armed), (.int .i64 p.left), (.int .i64 p.uses)] 145 (0, 0))], R] := hX12.of_all2
   refine za (o_not rfl ?_)
   refine za (ze (v := (.bool (!(!p.off)))) rfl ?_)
   refine zf ?_
   refine zc (hK11 _ _ ?_)
   refine zX rfl (fun h15 => ?_) (fun h15 => ?_)
   ·
    have h15_n : (!p.off) = false := by first | simpa using h15 | exact Bool.of_not_eq_true (fun g_ => by rw [g_] at h15; cases h15)
    have h15_n_n : p.off = true := by first | simpa using h15_n | exact Bool.of_not_eq_false (fun g_ => by rw [g_] at h15_n; cases h15_n)
    refine wp_seq_k fun K16 hK16 => ?_
    refine zb ?_
    refine za (ze (v := (.int .i64 6)) rfl ?_)
    refine zf ?_
    refine zc (hK16 _ _ ?_)
    refine wp_ret ?_
    refine b_ret (zv (zq Tryz.results187  (v := (.int .i64 6)) rfl ?_))
    exact ⟨by rw [thE_off (by omega) (by omega) (by simpa using h15)], hH13⟩
   ·
    have h15_n : (!p.off) = true := by first | simpa using h15 | exact Bool.of_not_eq_false (fun g_ => by rw [g_] at h15; cases h15)
    have h15_n_n : p.off = false := by first | simpa using h15_n | exact Bool.of_not_eq_true (fun g_ => by rw [g_] at h15_n; cases h15_n)
    refine wp_skip ?_
    refine zG ?_
    refine zc (hK2 _ _ ?_)
    refine wp_seq_k fun K17 hK17 => ?_
    refine zb ?_
    refine za (ze (v := (.int .i64 0)) rfl ?_)
    refine zf ?_
    refine zc (hK17 _ _ ?_)
    refine wp_ret ?_
    refine zq Tryz.results187  (v := (.int .i64 0)) rfl ?_
    exact ⟨by rw [thE_ok (by omega) (by omega) (by simpa using h15)], hH13⟩
end Go.Q
namespace Go.Q
open Go.Proofs
set_option linter.unusedVariables false
set_option maxRecDepth 100000
attribute [local irreducible] wpList OK Code.wp
set_option maxHeartbeats 4000000 in
theorem hsv_c {E w : World} {R sg : List Hp} {pb db : Nat} {d : Dv} (hH : Has E w [sg, [Hp.one pb (.cells #[(.bool d.p.off), (.bool d.p.armed), (.int .i64 d.p.left), (.int .i64 d.p.uses)] 145 (0, 0))], R]) (hd : DevAt pb sg db d.la d.lo) {k : Nat} (hf : Few d.p k) (hk : k ≤ 900000) (hlk : LoOk d.lo d.la.length) (h4 : d.la.length ≤ 4096) (hg : CellsAt R 0 0 nibV) (x : Int) {h : Hd} :
  Calls Tryz.prog 123 #[(.pointer (some ⟨db, 0, none⟩)), (.int .i64 x), (.agg #[(.int .i64 h.seq), (.int .i64 h.ep), (.int .i64 h.cut), (.int .i64 h.st), (.int .i64 h.mrk)])] w fun e w' => ∃ sg', e = .returned (.tuple #[.agg #[(.int .i64 ((svD d x h).2.1).seq), (.int .i64 ((svD d x h).2.1).ep), (.int .i64 ((svD d x h).2.1).cut), (.int .i64 ((svD d x h).2.1).st), (.int .i64 ((svD d x h).2.1).mrk)], .int .i64 (svD d x h).1]) ∧ DevAt pb sg' db (svD d x h).2.2.la (svD d x h).2.2.lo ∧ Has E w' [sg', [Hp.one pb (.cells #[(.bool ((svD d x h).2.2).p.off), (.bool ((svD d x h).2.2).p.armed), (.int .i64 ((svD d x h).2.2).p.left), (.int .i64 ((svD d x h).2.2).p.uses)] 145 (0, 0))], R] := by
 refine zs (args := [(.pointer (some ⟨db, 0, none⟩)), (.int .i64 x), (.agg #[(.int .i64 h.seq), (.int .i64 h.ep), (.int .i64 h.cut), (.int .i64 h.st), (.int .i64 h.mrk)])]) Tryz.func123 rfl Tryz.ntmps123 (by simp) ?_
 refine wp_seq_k fun K1 hK1 => ?_
 refine zb ?_
 refine za (o_box (cs := #[(.int .i64 h.seq), (.int .i64 h.ep), (.int .i64 h.cut), (.int .i64 h.st), (.int .i64 h.mrk)]) rfl rfl hH fun b2 w3 hH4 => ?_)
 refine za (zU (cs := #[(.int .i64 0), (.int .i64 0), (.int .i64 0), (.int .i64 0), (.int .i64 0)]) zR rfl hH4 fun b5 w6 hH7 => ?_)
 refine za (ze (v := (.int .i64 0)) rfl ?_)
 refine zf ?_
 refine zc (hK1 _ _ ?_)
 refine wp_seq_k fun K8 hK8 => ?_
 refine wp_seq_k fun K9 hK9 => ?_
 refine zb ?_
 refine za (zg (k := 0) (fun _ => by kernel_rfl) rfl ?_)
 refine za (zj (v := (.int .i64 h.seq)) Tryz.underlying3 rfl rfl hH7 (zh 1 rfl) (CellsAt.one rfl) ?_)
 refine za (zL (a := h.seq) (b := 0) rfl rfl ?_)
 refine za (zd (v := (.bool (decide (h.seq < 0)))) rfl ?_)
 by_cases h10 : h.seq < 0
 ·
  refine zi (b' := true) 14 rfl (cT h10) rfl ?_
  refine zi (b' := true) 14 rfl (cT h10) rfl ?_
  refine zi (b' := true) 14 rfl (cT h10) rfl ?_
  refine za (zo (u := (.bool true)) ((rfl : _ = _).trans (cT h10)) rfl ?_)
  refine za (zd (v := (.bool true)) rfl ?_)
  refine zi (b' := true) 19 rfl rfl rfl ?_
  refine zi (b' := true) 19 rfl rfl rfl ?_
  refine zi (b' := true) 19 rfl rfl rfl ?_
  refine za (zo (u := (.bool true)) rfl rfl ?_)
  refine zf ?_
  refine zc (hK9 _ _ ?_)
  refine zN rfl rfl ?_
  refine wp_seq_k fun K11 hK11 => ?_
  refine zb ?_
  refine za (zK (v := (.agg #[(.int .i64 0), (.int .i64 0), (.int .i64 0), (.int .i64 0), (.int .i64 0)])) (fun _ => by kernel_rfl) ?_)
  refine zB (zw (vs := [(.int .i64 0), (.int .i64 0), (.int .i64 0), (.int .i64 0), (.int .i64 0)]) (c' := #[(.int .i64 0), (.int .i64 0), (.int .i64 0), (.int .i64 0), (.int .i64 0)]) zR rfl rfl rfl rfl (by intro u hu; simp only [List.mem_cons, List.not_mem_nil, or_false] at hu; rcases hu with rfl | rfl | rfl | rfl | rfl <;> first | rfl) (by simp) (by kernel_rfl) (hH7.front 0 rfl) fun w12 hH13 => ?_)
  refine za (ze (v := (.int .i64 1)) rfl ?_)
  refine zf ?_
  refine zc (hK11 _ _ ?_)
  refine wp_ret ?_
  refine zv (zZ Tryz.results123 rfl (zy (cs := [(.int .i64 0), (.int .i64 0), (.int .i64 0), (.int .i64 0), (.int .i64 0)]) Tryz.underlying23 rfl zR hH13 (zh 0 rfl) (CellsAt.one rfl)) (x := (.int .i64 1)) rfl ?_)
  have hH14 : Has E w12 [sg, [Hp.one pb (.cells #[(.bool d.p.off), (.bool d.p.armed), (.int .i64 d.p.left), (.int .i64 d.p.uses)] 145 (0, 0))], R] := (((hH13.front 4 rfl).front 4 rfl).front 4 rfl).first 3 rfl
  have hE_ : (svD d x h) = (1, hdZ, d) := svD_bad (fun k => by have k1 := k.1; have k2 := k.2; omega)
  exact ⟨_, by first | (rw [hE_]; done) | (rw [hE_]; rfl), by rw [hE_]; exact hd, by rw [hE_]; exact hH14⟩
 ·
  refine zn 14 rfl (cF h10) (zg (k := 0) (fun _ => by kernel_rfl) rfl ?_)
  refine zn 14 rfl (cF h10) (zj (v := (.int .i64 h.seq)) Tryz.underlying3 rfl rfl hH7 (zh 1 rfl) (CellsAt.one rfl) ?_)
  refine zn 14 rfl (cF h10) (o_geq (a := h.seq) (b := 4611686018427387903) rfl rfl ?_)
  refine za (zm (u := (.bool (decide (4611686018427387903 ≤ h.seq)))) ((rfl : _ = _).trans (cF h10)) rfl ?_)
  refine za (zd (v := (.bool (decide (4611686018427387903 ≤ h.seq)))) rfl ?_)
  by_cases h15 : 4611686018427387903 ≤ h.seq
  ·
   refine zi (b' := true) 19 rfl (cT h15) rfl ?_
   refine zi (b' := true) 19 rfl (cT h15) rfl ?_
   refine zi (b' := true) 19 rfl (cT h15) rfl ?_
   refine za (zo (u := (.bool true)) ((rfl : _ = _).trans (cT h15)) rfl ?_)
   refine zf ?_
   refine zc (hK9 _ _ ?_)
   refine zN rfl rfl ?_
   refine wp_seq_k fun K16 hK16 => ?_
   refine zb ?_
   refine za (zK (v := (.agg #[(.int .i64 0), (.int .i64 0), (.int .i64 0), (.int .i64 0), (.int .i64 0)])) (fun _ => by kernel_rfl) ?_)
   refine zB (zw (vs := [(.int .i64 0), (.int .i64 0), (.int .i64 0), (.int .i64 0), (.int .i64 0)]) (c' := #[(.int .i64 0), (.int .i64 0), (.int .i64 0), (.int .i64 0), (.int .i64 0)]) zR rfl rfl rfl rfl (by intro u hu; simp only [List.mem_cons, List.not_mem_nil, or_false] at hu; rcases hu with rfl | rfl | rfl | rfl | rfl <;> first | rfl) (by simp) (by kernel_rfl) (hH7.front 0 rfl) fun w17 hH18 => ?_)
   refine za (ze (v := (.int .i64 1)) rfl ?_)
   refine zf ?_
   refine zc (hK16 _ _ ?_)
   refine wp_ret ?_
   refine zv (zZ Tryz.results123 rfl (zy (cs := [(.int .i64 0), (.int .i64 0), (.int .i64 0), (.int .i64 0), (.int .i64 0)]) Tryz.underlying23 rfl zR hH18 (zh 0 rfl) (CellsAt.one rfl)) (x := (.int .i64 1)) rfl ?_)
   have hH19 : Has E w17 [sg, [Hp.one pb (.cells #[(.bool d.p.off), (.bool d.p.armed), (.int .i64 d.p.left), (.int .i64 d.p.uses)] 145 (0, 0))], R] := (((hH18.front 4 rfl).front 4 rfl).front 4 rfl).first 3 rfl
   have hE_ : (svD d x h) = (1, hdZ, d) := svD_bad (fun k => by have k1 := k.1; have k2 := k.2; omega)
   exact ⟨_, by first | (rw [hE_]; done) | (rw [hE_]; rfl), by rw [hE_]; exact hd, by rw [hE_]; exact hH19⟩
  ·
   refine zn 19 rfl (cF h15) (zC (cs := [(.int .i64 h.seq), (.int .i64 h.ep), (.int .i64 h.cut), (.int .i64 h.st), (.int .i64 h.mrk)]) Tryz.underlying23 rfl zR rfl hH7 (zh 1 rfl) (CellsAt.one rfl) ?_)
   refine zn 19 rfl (cF h15) (zk (vs := #[(.agg #[(.int .i64 h.seq), (.int .i64 h.ep), (.int .i64 h.cut), (.int .i64 h.st), (.int .i64 h.mrk)])]) ca88 rfl (zF rfl) (hright_c (h := h) hH7.all ) ?_)
   rintro _ w22 ⟨rfl, hX20⟩
   refine ⟨_, rfl, ?_⟩
   have hH21 := hX20.of_all
   refine zn 19 rfl (cF h15) (o_not rfl ?_)
   refine za (zm (u := (.bool (!(hdR h)))) ((rfl : _ = _).trans (cF h15)) rfl ?_)
   refine zf ?_
   refine zc (hK9 _ _ ?_)
   refine zX rfl (fun h23 => ?_) (fun h23 => ?_)
   ·
    have h23_n : (hdR h) = false := by first | simpa using h23 | exact Bool.of_not_eq_true (fun g_ => by rw [g_] at h23; cases h23)
    refine wp_seq_k fun K24 hK24 => ?_
    refine zb ?_
    refine za (zK (v := (.agg #[(.int .i64 0), (.int .i64 0), (.int .i64 0), (.int .i64 0), (.int .i64 0)])) (fun _ => by kernel_rfl) ?_)
    refine zB (zw (vs := [(.int .i64 0), (.int .i64 0), (.int .i64 0), (.int .i64 0), (.int .i64 0)]) (c' := #[(.int .i64 0), (.int .i64 0), (.int .i64 0), (.int .i64 0), (.int .i64 0)]) zR rfl rfl rfl rfl (by intro u hu; simp only [List.mem_cons, List.not_mem_nil, or_false] at hu; rcases hu with rfl | rfl | rfl | rfl | rfl <;> first | rfl) (by simp) (by kernel_rfl) (hH21.front 0 rfl) fun w25 hH26 => ?_)
    refine za (ze (v := (.int .i64 1)) rfl ?_)
    refine zf ?_
    refine zc (hK24 _ _ ?_)
    refine wp_ret ?_
    refine zv (zZ Tryz.results123 rfl (zy (cs := [(.int .i64 0), (.int .i64 0), (.int .i64 0), (.int .i64 0), (.int .i64 0)]) Tryz.underlying23 rfl zR hH26 (zh 0 rfl) (CellsAt.one rfl)) (x := (.int .i64 1)) rfl ?_)
    have hH27 : Has E w25 [sg, [Hp.one pb (.cells #[(.bool d.p.off), (.bool d.p.armed), (.int .i64 d.p.left), (.int .i64 d.p.uses)] 145 (0, 0))], R] := (((hH26.front 4 rfl).front 4 rfl).front 4 rfl).first 3 rfl
    have hE_ : (svD d x h) = (1, hdZ, d) := svD_bad (fun k => by have k1 := k.1; have k2 := k.2; have k3 := h23; rw [k2] at k3; cases k3)
    exact ⟨_, by first | (rw [hE_]; done) | (rw [hE_]; rfl), by rw [hE_]; exact hd, by rw [hE_]; exact hH27⟩
   ·
    have h23_n : (hdR h) = true := by first | simpa using h23 | exact Bool.of_not_eq_false (fun g_ => by rw [g_] at h23; cases h23)
    refine wp_skip ?_
    refine zc (hK8 _ _ ?_)
    refine wp_seq_k fun K28 hK28 => ?_
    refine wp_seq_k fun K29 hK29 => ?_
    refine zb ?_
    refine za (zd (v := (.pointer (some ⟨db, 0, none⟩))) rfl ?_)
    refine za (zd (v := (.int .i64 x)) rfl ?_)
    refine za (zk (vs := #[(.pointer (some ⟨db, 0, none⟩)), (.int .i64 x)]) ca187 rfl (zI rfl rfl) (there_c ((hH21.front 3 rfl).front 3 rfl).all2 hd x) ?_)
    rintro _ w32 ⟨rfl, hX30⟩
    refine ⟨_, rfl, ?_⟩
    have hH31 : Has E w32 [sg, [Hp.one pb (.cells #[(.bool d.p.off), (.bool d.p.armed), (.int .i64 d.p.left), (.int .i64 d.p.uses)] 145 (0, 0))], [Hp.one b5 (.cells #[(.int .i64 0), (.int .i64 0), (.int .i64 0), (.int .i64 0), (.int .i64 0)] 23 (0, 0))], [Hp.one b2 (.cells #[(.int .i64 h.seq), (.int .i64 h.ep), (.int .i64 h.cut), (.int .i64 h.st), (.int .i64 h.mrk)] 23 (0, 0))], R] := hX30.of_all2
    refine za (ze (v := (.int .i64 (thE d.p d.la.length x))) rfl ?_)
    refine zf ?_
    refine zc (hK29 _ _ ?_)
    refine wp_seq_k fun K33 hK33 => ?_
    refine zb ?_
    refine za (zd (v := (.int .i64 (thE d.p d.la.length x))) rfl ?_)
    refine za (o_neq (a := thE d.p d.la.length x) (b := 0) rfl rfl ?_)
    refine zf ?_
    refine zc (hK33 _ _ ?_)
    refine zt rfl (fun h34 => ?_) (fun h34 => ?_)
    ·
     refine wp_seq_k fun K35 hK35 => ?_
     refine zb ?_
     refine za (zK (v := (.agg #[(.int .i64 0), (.int .i64 0), (.int .i64 0), (.int .i64 0), (.int .i64 0)])) (fun _ => by kernel_rfl) ?_)
     refine za (zd (v := (.int .i64 (thE d.p d.la.length x))) rfl ?_)
     refine zB (zw (vs := [(.int .i64 0), (.int .i64 0), (.int .i64 0), (.int .i64 0), (.int .i64 0)]) (c' := #[(.int .i64 0), (.int .i64 0), (.int .i64 0), (.int .i64 0), (.int .i64 0)]) zR rfl rfl rfl rfl (by intro u hu; simp only [List.mem_cons, List.not_mem_nil, or_false] at hu; rcases hu with rfl | rfl | rfl | rfl | rfl <;> first | rfl) (by simp) (by kernel_rfl) (hH31.front 2 rfl) fun w36 hH37 => ?_)
     refine za (ze (v := (.int .i64 (thE d.p d.la.length x))) rfl ?_)
     refine zf ?_
     refine zc (hK35 _ _ ?_)
     refine wp_ret ?_
     refine zv (zZ Tryz.results123 rfl (zy (cs := [(.int .i64 0), (.int .i64 0), (.int .i64 0), (.int .i64 0), (.int .i64 0)]) Tryz.underlying23 rfl zR hH37 (zh 0 rfl) (CellsAt.one rfl)) (x := (.int .i64 (thE d.p d.la.length x))) rfl ?_)
     have hH38 : Has E w36 [sg, [Hp.one pb (.cells #[(.bool d.p.off), (.bool d.p.armed), (.int .i64 d.p.left), (.int .i64 d.p.uses)] 145 (0, 0))], R] := (((hH37.front 4 rfl).front 3 rfl).front 3 rfl).first 3 rfl
     have hE_ : (svD d x h) = (thE d.p d.la.length x, hdZ, d) := svD_th (h := h) ⟨⟨by omega, by omega⟩, by simpa using h23⟩ h34
     exact ⟨_, by first | (rw [hE_]; done) | (rw [hE_]; rfl), by rw [hE_]; exact hd, by rw [hE_]; exact hH38⟩
    ·
     have hth_ := thE_zero (Classical.not_not.1 h34)
     have hok_ : svOk h := ⟨⟨by omega, by omega⟩, by simpa using h23⟩
     obtain ⟨hx1_, hx2_⟩ := hth_.1
     have hul_ := hdU_len hok_
     unfold hdUp at hul_
     refine wp_skip ?_
     refine zc (hK28 _ _ ?_)
     refine wp_seq_k fun K39 hK39 => ?_
     refine zb ?_
     refine za (zg (k := 0) (fun _ => by kernel_rfl) rfl ?_)
     refine za (zj (v := (.int .i64 h.seq)) Tryz.underlying3 rfl rfl hH31 (zh 3 rfl) (CellsAt.one rfl) ?_)
     refine za (zH (a := h.seq) (b := 1) rfl rfl (w64 (by omega) (by omega)) ?_)
     refine za (zg (k := 0) (fun _ => by kernel_rfl) rfl ?_)
     refine zB (zJ (c' := #[(.int .i64 (h.seq + 1)), (.int .i64 h.ep), (.int .i64 h.cut), (.int .i64 h.st), (.int .i64 h.mrk)]) ti3 rfl rfl rfl (by simp) rfl (hH31.front 3 rfl) fun w40 hH41 => ?_)
     refine zf ?_
     refine zc (hK39 _ _ ?_)
     refine wp_seq_k fun K42 hK42 => ?_
     refine wp_seq_k fun K43 hK43 => ?_
     refine Rest.region mixed (by kernel_rfl) ?_
     have hH44 : Has E { w40 with drawn := w40.drawn + 1 } [[Hp.one b2 (.cells #[(.int .i64 (h.seq + 1)), (.int .i64 h.ep), (.int .i64 h.cut), (.int .i64 h.st), (.int .i64 h.mrk)] 23 (0, 0))], sg, [Hp.one pb (.cells #[(.bool d.p.off), (.bool d.p.armed), (.int .i64 d.p.left), (.int .i64 d.p.uses)] 145 (0, 0))], [Hp.one b5 (.cells #[(.int .i64 0), (.int .i64 0), (.int .i64 0), (.int .i64 0), (.int .i64 0)] 23 (0, 0))], R] := Has0.drew hH41 _
     refine Rest.phaseA (fun w_ => Has E w_ [[Hp.one b2 (.cells #[(.int .i64 (h.seq + 1)), (.int .i64 h.ep), (.int .i64 h.cut), (.int .i64 h.st), (.int .i64 h.mrk)] 23 (0, 0))]]) 0 9 9 rfl (by decide) (by kernel_rfl) ?_
     refine zr 0 rfl (by kernel_rfl) (fun w_ h_ => zd (v := (.pointer (some ⟨db, 0, none⟩))) rfl ⟨rfl, rfl⟩) ?_
     refine zr 1 rfl (by kernel_rfl) (fun w_ h_ => zd (v := (.int .i64 x)) rfl ⟨rfl, rfl⟩) ?_
     refine zr 2 rfl (by kernel_rfl) (fun w_ h_ => zg (k := 0) (fun _ => by kernel_rfl) rfl ⟨rfl, rfl⟩) ?_
     refine zr 3 rfl (by kernel_rfl) (fun w_ h_ => zj (v := (.int .i64 (h.seq + 1))) Tryz.underlying3 rfl rfl h_ (zh 0 rfl) (CellsAt.one rfl) ⟨rfl, rfl⟩) ?_
     refine zr 4 rfl (by kernel_rfl) (fun w_ h_ => o_rem (a := h.seq + 1) (b := 2) (c := (h.seq + 1) % 2) rfl rfl (by omega) ((Int.tmod_eq_emod_of_nonneg (by first | exact Int.natCast_nonneg _ | omega))) ⟨rfl, rfl⟩) ?_
     refine zr 5 rfl (by kernel_rfl) (fun w_ h_ => zH (a := x) (b := (h.seq + 1) % 2) rfl rfl (w64 (by omega) (by omega)) ⟨rfl, rfl⟩) ?_
     refine zr 6 rfl (by kernel_rfl) (fun w_ h_ => zC (cs := [(.int .i64 (h.seq + 1)), (.int .i64 h.ep), (.int .i64 h.cut), (.int .i64 h.st), (.int .i64 h.mrk)]) Tryz.underlying23 rfl zR rfl h_ (zh 0 rfl) (CellsAt.one rfl) ⟨rfl, rfl⟩) ?_
     have hH45 : Has E { w40 with drawn := w40.drawn + 1 } [[Hp.one b2 (.cells #[(.int .i64 (h.seq + 1)), (.int .i64 h.ep), (.int .i64 h.cut), (.int .i64 h.st), (.int .i64 h.mrk)] 23 (0, 0))]] := hH44.first 1 rfl
     refine a_w 7 rfl (by kernel_rfl) hH45 (zk (vs := #[(.agg #[(.int .i64 (h.seq + 1)), (.int .i64 h.ep), (.int .i64 h.cut), (.int .i64 h.st), (.int .i64 h.mrk)])]) ca13 rfl (zF rfl) (hlaid_c (h := (Hd.mk (h.seq + 1) h.ep h.cut h.st h.mrk)) hH44.all (hg.mono (zh 4 rfl))) ?_)
     rintro _ w48 ⟨rfl, hX46⟩
     refine ⟨_, rfl, ?_⟩
     have hH47 := hX46.of_all
     have hH49 : Has E w48 [[Hp.one b2 (.cells #[(.int .i64 (h.seq + 1)), (.int .i64 h.ep), (.int .i64 h.cut), (.int .i64 h.st), (.int .i64 h.mrk)] 23 (0, 0))]] := hH47.first 1 rfl
     refine a_w 8 rfl (by kernel_rfl) hH49 (zu (ps := #[(0, (S (hdL (Hd.mk (h.seq + 1) h.ep h.cut h.st h.mrk))))]) (cells := #[(S (hdL (Hd.mk (h.seq + 1) h.ep h.cut h.st h.mrk)))]) Tryz.underlying46 ti9 (by decide) (parts1 rfl) (by kernel_rfl) hH47 fun b50 w51 hH52 => ?_)
     have hH53 : Has E w51 [[Hp.one b2 (.cells #[(.int .i64 (h.seq + 1)), (.int .i64 h.ep), (.int .i64 h.cut), (.int .i64 h.st), (.int .i64 h.mrk)] 23 (0, 0))]] := (hH52.front 1 rfl).first 1 rfl
     refine zQ (by kernel_rfl) hH53 ?_
     refine zP 9 rfl (by kernel_rfl) (zk (vs := #[(.pointer (some ⟨db, 0, none⟩)), (.int .i64 (x + ((h.seq + 1) % 2))), (.slice (some ⟨b50, 0, none⟩) 1 1)]) ca122 rfl (args3 rfl rfl rfl) (dv_wr (d := d) ((hH52.front 3 rfl).front 3 rfl).all2 hd (hf.ok (by omega)) h4 (x + ((h.seq + 1) % 2)) (l := [(hdL (Hd.mk (h.seq + 1) h.ep h.cut h.st h.mrk))]) ((zW (f := sV) (l := [(hdL (Hd.mk (h.seq + 1) h.ep h.cut h.st h.mrk))]) rfl rfl (by simp)).mono (zh 0 rfl)) (s := (hdL (Hd.mk (h.seq + 1) h.ep h.cut h.st h.mrk))) (by simp) (by simp) (by omega)) ?_)
     rintro _ w58 ⟨sg54, rfl, hd55, hX56⟩
     refine ⟨_, rfl, ?_⟩
     have hH57 : Has E w58 [sg54, [Hp.one pb (.cells #[(.bool (d.wr (x + ((h.seq + 1) % 2)) (hdL (Hd.mk (h.seq + 1) h.ep h.cut h.st h.mrk))).p.off), (.bool (d.wr (x + ((h.seq + 1) % 2)) (hdL (Hd.mk (h.seq + 1) h.ep h.cut h.st h.mrk))).p.armed), (.int .i64 (d.wr (x + ((h.seq + 1) % 2)) (hdL (Hd.mk (h.seq + 1) h.ep h.cut h.st h.mrk))).p.left), (.int .i64 (d.wr (x + ((h.seq + 1) % 2)) (hdL (Hd.mk (h.seq + 1) h.ep h.cut h.st h.mrk))).p.uses)] 145 (0, 0))], [Hp.one b50 (.cells #[(S (hdL (Hd.mk (h.seq + 1) h.ep h.cut h.st h.mrk)))] 9 (0, 0))], [Hp.one b2 (.cells #[(.int .i64 (h.seq + 1)), (.int .i64 h.ep), (.int .i64 h.cut), (.int .i64 h.st), (.int .i64 h.mrk)] 23 (0, 0))], [Hp.one b5 (.cells #[(.int .i64 0), (.int .i64 0), (.int .i64 0), (.int .i64 0), (.int .i64 0)] 23 (0, 0))], R] := hX56.of_all2
     refine zP 10 rfl (by kernel_rfl) (ze (v := (.int .i64 (d.wrE (x + ((h.seq + 1) % 2)) (hdL (Hd.mk (h.seq + 1) h.ep h.cut h.st h.mrk))))) rfl ?_)
     refine Rest.done (by kernel_rfl) ?_
     refine zc (hK43 _ _ ?_)
     refine wp_seq_k fun K59 hK59 => ?_
     refine zb ?_
     refine za (zd (v := (.int .i64 (d.wrE (x + ((h.seq + 1) % 2)) (hdL (Hd.mk (h.seq + 1) h.ep h.cut h.st h.mrk))))) rfl ?_)
     refine za (o_neq (a := d.wrE (x + ((h.seq + 1) % 2)) (hdL (Hd.mk (h.seq + 1) h.ep h.cut h.st h.mrk))) (b := 0) rfl rfl ?_)
     refine zf ?_
     refine zc (hK59 _ _ ?_)
     refine zt rfl (fun h60 => ?_) (fun h60 => ?_)
     ·
      refine wp_seq_k fun K61 hK61 => ?_
      refine zb ?_
      refine za (zK (v := (.agg #[(.int .i64 0), (.int .i64 0), (.int .i64 0), (.int .i64 0), (.int .i64 0)])) (fun _ => by kernel_rfl) ?_)
      refine za (zd (v := (.int .i64 (d.wrE (x + ((h.seq + 1) % 2)) (hdL (Hd.mk (h.seq + 1) h.ep h.cut h.st h.mrk))))) rfl ?_)
      refine zB (zw (vs := [(.int .i64 0), (.int .i64 0), (.int .i64 0), (.int .i64 0), (.int .i64 0)]) (c' := #[(.int .i64 0), (.int .i64 0), (.int .i64 0), (.int .i64 0), (.int .i64 0)]) zR rfl rfl rfl rfl (by intro u hu; simp only [List.mem_cons, List.not_mem_nil, or_false] at hu; rcases hu with rfl | rfl | rfl | rfl | rfl <;> first | rfl) (by simp) (by kernel_rfl) (hH57.front 4 rfl) fun w62 hH63 => ?_)
      refine za (ze (v := (.int .i64 (d.wrE (x + ((h.seq + 1) % 2)) (hdL (Hd.mk (h.seq + 1) h.ep h.cut h.st h.mrk))))) rfl ?_)
      refine zf ?_
      refine zc (hK61 _ _ ?_)
      refine wp_ret ?_
      refine zv (zZ Tryz.results123 rfl (zy (cs := [(.int .i64 0), (.int .i64 0), (.int .i64 0), (.int .i64 0), (.int .i64 0)]) Tryz.underlying23 rfl zR hH63 (zh 0 rfl) (CellsAt.one rfl)) (x := (.int .i64 (d.wrE (x + ((h.seq + 1) % 2)) (hdL (Hd.mk (h.seq + 1) h.ep h.cut h.st h.mrk))))) rfl ?_)
      have hH64 : Has E w62 [sg54, [Hp.one pb (.cells #[(.bool (d.wr (x + ((h.seq + 1) % 2)) (hdL (Hd.mk (h.seq + 1) h.ep h.cut h.st h.mrk))).p.off), (.bool (d.wr (x + ((h.seq + 1) % 2)) (hdL (Hd.mk (h.seq + 1) h.ep h.cut h.st h.mrk))).p.armed), (.int .i64 (d.wr (x + ((h.seq + 1) % 2)) (hdL (Hd.mk (h.seq + 1) h.ep h.cut h.st h.mrk))).p.left), (.int .i64 (d.wr (x + ((h.seq + 1) % 2)) (hdL (Hd.mk (h.seq + 1) h.ep h.cut h.st h.mrk))).p.uses)] 145 (0, 0))], R] := (((hH63.front 5 rfl).front 3 rfl).front 3 rfl).first 3 rfl
      have hE_ : (svD d x h) = (d.wrE (x + ((h.seq + 1) % 2)) (hdL (Hd.mk (h.seq + 1) h.ep h.cut h.st h.mrk)), hdZ, (d.wr (x + ((h.seq + 1) % 2)) (hdL (Hd.mk (h.seq + 1) h.ep h.cut h.st h.mrk)))) := svD_w hok_ (Classical.not_not.1 h34) h60
      exact ⟨_, by first | (rw [hE_]; done) | (rw [hE_]; rfl), by rw [hE_]; exact hd55, by rw [hE_]; exact hH64⟩
     ·
      refine wp_skip ?_
      refine zc (hK42 _ _ ?_)
      refine wp_seq_k fun K65 hK65 => ?_
      refine wp_seq_k fun K66 hK66 => ?_
      refine zb ?_
      refine za (zd (v := (.pointer (some ⟨db, 0, none⟩))) rfl ?_)
      refine za (zk (vs := #[(.pointer (some ⟨db, 0, none⟩))]) ca32 rfl (zF rfl) (dv_syN (d := (d.wr (x + ((h.seq + 1) % 2)) (hdL (Hd.mk (h.seq + 1) h.ep h.cut h.st h.mrk)))) ((hH57.front 1 rfl).front 1 rfl).all2 hd55 (hf.use.ok (by omega)) h4 (hlk.write _ _ _)) ?_)
      rintro _ w71 ⟨sg67, rfl, hd68, hX69⟩
      refine ⟨_, rfl, ?_⟩
      have hH70 : Has E w71 [sg67, [Hp.one pb (.cells #[(.bool ((d.wr (x + ((h.seq + 1) % 2)) (hdL (Hd.mk (h.seq + 1) h.ep h.cut h.st h.mrk))).syN).p.off), (.bool ((d.wr (x + ((h.seq + 1) % 2)) (hdL (Hd.mk (h.seq + 1) h.ep h.cut h.st h.mrk))).syN).p.armed), (.int .i64 ((d.wr (x + ((h.seq + 1) % 2)) (hdL (Hd.mk (h.seq + 1) h.ep h.cut h.st h.mrk))).syN).p.left), (.int .i64 ((d.wr (x + ((h.seq + 1) % 2)) (hdL (Hd.mk (h.seq + 1) h.ep h.cut h.st h.mrk))).syN).p.uses)] 145 (0, 0))], [Hp.one b50 (.cells #[(S (hdL (Hd.mk (h.seq + 1) h.ep h.cut h.st h.mrk)))] 9 (0, 0))], [Hp.one b2 (.cells #[(.int .i64 (h.seq + 1)), (.int .i64 h.ep), (.int .i64 h.cut), (.int .i64 h.st), (.int .i64 h.mrk)] 23 (0, 0))], [Hp.one b5 (.cells #[(.int .i64 0), (.int .i64 0), (.int .i64 0), (.int .i64 0), (.int .i64 0)] 23 (0, 0))], R] := hX69.of_all2
      refine za (ze (v := (.int .i64 ((d.wr (x + ((h.seq + 1) % 2)) (hdL (Hd.mk (h.seq + 1) h.ep h.cut h.st h.mrk))).syE))) rfl ?_)
      refine zf ?_
      refine zc (hK66 _ _ ?_)
      refine wp_seq_k fun K72 hK72 => ?_
      refine zb ?_
      refine za (zd (v := (.int .i64 ((d.wr (x + ((h.seq + 1) % 2)) (hdL (Hd.mk (h.seq + 1) h.ep h.cut h.st h.mrk))).syE))) rfl ?_)
      refine za (o_neq (a := (d.wr (x + ((h.seq + 1) % 2)) (hdL (Hd.mk (h.seq + 1) h.ep h.cut h.st h.mrk))).syE) (b := 0) rfl rfl ?_)
      refine zf ?_
      refine zc (hK72 _ _ ?_)
      refine zt rfl (fun h73 => ?_) (fun h73 => ?_)
      ·
       refine wp_seq_k fun K74 hK74 => ?_
       refine zb ?_
       refine za (zK (v := (.agg #[(.int .i64 0), (.int .i64 0), (.int .i64 0), (.int .i64 0), (.int .i64 0)])) (fun _ => by kernel_rfl) ?_)
       refine za (zd (v := (.int .i64 ((d.wr (x + ((h.seq + 1) % 2)) (hdL (Hd.mk (h.seq + 1) h.ep h.cut h.st h.mrk))).syE))) rfl ?_)
       refine zB (zw (vs := [(.int .i64 0), (.int .i64 0), (.int .i64 0), (.int .i64 0), (.int .i64 0)]) (c' := #[(.int .i64 0), (.int .i64 0), (.int .i64 0), (.int .i64 0), (.int .i64 0)]) zR rfl rfl rfl rfl (by intro u hu; simp only [List.mem_cons, List.not_mem_nil, or_false] at hu; rcases hu with rfl | rfl | rfl | rfl | rfl <;> first | rfl) (by simp) (by kernel_rfl) (hH70.front 4 rfl) fun w75 hH76 => ?_)
       refine za (ze (v := (.int .i64 ((d.wr (x + ((h.seq + 1) % 2)) (hdL (Hd.mk (h.seq + 1) h.ep h.cut h.st h.mrk))).syE))) rfl ?_)
       refine zf ?_
       refine zc (hK74 _ _ ?_)
       refine wp_ret ?_
       refine zv (zZ Tryz.results123 rfl (zy (cs := [(.int .i64 0), (.int .i64 0), (.int .i64 0), (.int .i64 0), (.int .i64 0)]) Tryz.underlying23 rfl zR hH76 (zh 0 rfl) (CellsAt.one rfl)) (x := (.int .i64 ((d.wr (x + ((h.seq + 1) % 2)) (hdL (Hd.mk (h.seq + 1) h.ep h.cut h.st h.mrk))).syE))) rfl ?_)
       have hH77 : Has E w75 [sg67, [Hp.one pb (.cells #[(.bool ((d.wr (x + ((h.seq + 1) % 2)) (hdL (Hd.mk (h.seq + 1) h.ep h.cut h.st h.mrk))).syN).p.off), (.bool ((d.wr (x + ((h.seq + 1) % 2)) (hdL (Hd.mk (h.seq + 1) h.ep h.cut h.st h.mrk))).syN).p.armed), (.int .i64 ((d.wr (x + ((h.seq + 1) % 2)) (hdL (Hd.mk (h.seq + 1) h.ep h.cut h.st h.mrk))).syN).p.left), (.int .i64 ((d.wr (x + ((h.seq + 1) % 2)) (hdL (Hd.mk (h.seq + 1) h.ep h.cut h.st h.mrk))).syN).p.uses)] 145 (0, 0))], R] := (((hH76.front 5 rfl).front 3 rfl).front 3 rfl).first 3 rfl
       have hE_ : (svD d x h) = ((d.wr (x + ((h.seq + 1) % 2)) (hdL (Hd.mk (h.seq + 1) h.ep h.cut h.st h.mrk))).syE, hdZ, (d.wr (x + ((h.seq + 1) % 2)) (hdL (Hd.mk (h.seq + 1) h.ep h.cut h.st h.mrk))).syN) := svD_s hok_ (Classical.not_not.1 h34) (Classical.not_not.1 h60) h73
       exact ⟨_, by first | (rw [hE_]; done) | (rw [hE_]; rfl), by rw [hE_]; exact hd68, by rw [hE_]; exact hH77⟩
      ·
       refine wp_skip ?_
       refine zc (hK65 _ _ ?_)
       refine wp_seq_k fun K78 hK78 => ?_
       refine zb ?_
       refine za (zC (cs := [(.int .i64 (h.seq + 1)), (.int .i64 h.ep), (.int .i64 h.cut), (.int .i64 h.st), (.int .i64 h.mrk)]) Tryz.underlying23 rfl zR rfl hH70 (zh 3 rfl) (CellsAt.one rfl) ?_)
       refine zB (zw (vs := [(.int .i64 (h.seq + 1)), (.int .i64 h.ep), (.int .i64 h.cut), (.int .i64 h.st), (.int .i64 h.mrk)]) (c' := #[(.int .i64 (h.seq + 1)), (.int .i64 h.ep), (.int .i64 h.cut), (.int .i64 h.st), (.int .i64 h.mrk)]) zR rfl rfl rfl rfl (by intro u hu; simp only [List.mem_cons, List.not_mem_nil, or_false] at hu; rcases hu with rfl | rfl | rfl | rfl | rfl <;> first | rfl) (by simp) (by kernel_rfl) (hH70.front 4 rfl) fun w79 hH80 => ?_)
       refine za (ze (v := (.int .i64 0)) rfl ?_)
       refine zf ?_
       refine zc (hK78 _ _ ?_)
       refine wp_ret ?_
       refine zZ Tryz.results123 rfl (zy (cs := [(.int .i64 (h.seq + 1)), (.int .i64 h.ep), (.int .i64 h.cut), (.int .i64 h.st), (.int .i64 h.mrk)]) Tryz.underlying23 rfl zR hH80 (zh 0 rfl) (CellsAt.one rfl)) (x := (.int .i64 0)) rfl ?_
       have hH81 : Has E w79 [sg67, [Hp.one pb (.cells #[(.bool ((d.wr (x + ((h.seq + 1) % 2)) (hdL (Hd.mk (h.seq + 1) h.ep h.cut h.st h.mrk))).syN).p.off), (.bool ((d.wr (x + ((h.seq + 1) % 2)) (hdL (Hd.mk (h.seq + 1) h.ep h.cut h.st h.mrk))).syN).p.armed), (.int .i64 ((d.wr (x + ((h.seq + 1) % 2)) (hdL (Hd.mk (h.seq + 1) h.ep h.cut h.st h.mrk))).syN).p.left), (.int .i64 ((d.wr (x + ((h.seq + 1) % 2)) (hdL (Hd.mk (h.seq + 1) h.ep h.cut h.st h.mrk))).syN).p.uses)] 145 (0, 0))], R] := (((hH80.front 5 rfl).front 3 rfl).front 3 rfl).first 3 rfl
       have hE_ : (svD d x h) = (0, (Hd.mk (h.seq + 1) h.ep h.cut h.st h.mrk), (d.wr (x + ((h.seq + 1) % 2)) (hdL (Hd.mk (h.seq + 1) h.ep h.cut h.st h.mrk))).syN) := svD_ok hok_ (Classical.not_not.1 h34) (Classical.not_not.1 h60) (Classical.not_not.1 h73)
       exact ⟨_, by first | (rw [hE_]; done) | (rw [hE_]; rfl), by rw [hE_]; exact hd68, by rw [hE_]; exact hH81⟩
end Go.Q
namespace Go.Q
open Go.Proofs
set_option linter.unusedVariables false
set_option maxRecDepth 100000
attribute [local irreducible] wpList OK Code.wp
end Go.Q
namespace Go.Q
open Go.RowKit
section
variable {P : Program} {ρ : Operand → Value} {E w : World} {ss : List (List Hp)} {K : Value → World → Prop} {dst : Option Tmp} {T : TypeId} {pos : String} {after : Array Edge} {g : Option (Nat × Bool)}
theorem strCells_S (l : List UInt8) : Lib.strCells ⟨l.toArray⟩ = l.map bV := rfl
theorem o_appstr {x y : Operand} {t u e : TypeId} {v : Value} {n : Nat} {cs : List Value} {hs : List Hp} {l : List UInt8} (ht : P.underlying t = some (.slice e)) (hu : P.underlying u = some .string) (hi : TI P e (.int .u8 0) 1 1)
  (hx : ρ x = v) (ho : Own e 1 v n cs hs) (hy : ρ y = S l) (H : Has E w (hs :: ss)) (hb : n + l.length ≤ 140737488355328)
  (hK : ∀ v' hs' w', Own e 1 v' (n + l.length) (cs ++ l.map bV) hs' → (v = .slice none 0 0 → l = [] → v' = .slice none 0 0) → Has E w' (hs' :: ss) → K v' w') :
  OK P ⟨dst, .call ⟨.builtin .append, #[x, y], #[t, u]⟩, T, pos, after, g⟩ ρ w K := by
 obtain ⟨i, hi, hiz, hisz, hiby⟩ := hi
 have hsz : (⟨l.toArray⟩ : ByteArray).size = l.length := by simp [ByteArray.size]
 have hrow := ho.row H
 obtain ⟨v', w', hr, ho', hg, hnil⟩ := Lib.run_append_own_string w 0 t u T e i ht hu hi hiz hisz hiby v n cs hrow ⟨l.toArray⟩ (by rw [hsz]; unfold maxLen; omega) (by rw [hsz]; omega) (Nat.zero_le _)
 have hloc : v'.ownBlock = v.ownBlock ∨ v'.ownBlock = some w.heap.size := by
  obtain ⟨hlc, ⟨rfl, rfl, rfl⟩ | ⟨b, cap, cur, rfl, rfl, hnc, hcm, hcs, htake⟩⟩ := ho
  ·
   by_cases hm : l.length = 0
   · exact .inl (by rw [hnil.2 ⟨rfl, by rw [hsz]; exact hm⟩])
   ·
    have hr2 := run_append_nil_string (P := P) w t u T e i (.int .u8 0) ht hu hi hiz ⟨l.toArray⟩ (by rw [hsz]; omega) (by rw [hsz]; omega) (by rw [hsz, hiby]; omega)
    rw [hr2] at hr
    injection hr with e1 e2
    exact .inr (by rw [← e1]; rfl)
  ·
   have hg0 : w.heap[b]? = some (.cells cur e (0, 0)) := H.at (by simp) (Hp.one_at _ _)
   by_cases hroom : n + (⟨l.toArray⟩ : ByteArray).size ≤ cap
   ·
    have hr2 := Lib.run_append_room_string (P := P) w t u T e i ht hu hi hisz b n cap cur hg0 ⟨l.toArray⟩ hroom (by omega)
    rw [hr2] at hr
    injection hr with e1 e2
    exact .inl (by rw [← e1]; rfl)
   ·
    have holds : ∀ j x, cs[j]? = some x → w.cell? ((⟨b, 0, none⟩ : Addr).add j) = some x := hrow.cells (g := b) rfl
    have hr2 := Lib.run_append_grow_string (P := P) w t u T e i (.int .u8 0) ht hu hi hiz ⟨b, 0, none⟩ n cap cs (by rw [hisz]; simpa using hlc) holds ⟨l.toArray⟩ (by omega) (by rw [hsz]; omega) (by rw [hiby]; exact growslice_fits (by omega) (by rw [hsz]; omega))
    rw [hr2] at hr
    injection hr with e1 e2
    exact .inr (by rw [← e1]; rfl)
 rw [hsz, strCells_S] at ho'
 obtain ⟨hs', hown, hH⟩ := ho.turn H ho' hg hloc
 refine zE (v := v') (w' := w') ?_ (hK v' hs' w' hown (fun h1 h2 => hnil.2 ⟨h1, by rw [h2]; rfl⟩) hH)
 have hyy : ρ y = .string ⟨l.toArray⟩ := hy
 simp only [hx, hyy, builtin, List.map_toArray, List.map_cons, List.map_nil, Sem.run_bind, hr, Result.andThen_ok, Sem.run_pure]
/-- unsafe.SliceData of no row, of a row -/
theorem o_uSDnil {x : Operand} {t : TypeId} {n c : Nat} (hx : ρ x = .slice none n c) (h : K (.pointer none) w) : OK P ⟨dst, .call ⟨.builtin .unsafeSliceData, #[x], #[t]⟩, T, pos, after, g⟩ ρ w K := by
 refine zE (v := .pointer none) (w' := w) ?_ h
 simp [hx, builtin, Lib.run_unsafeSliceData_nil]
theorem o_uSD {x : Operand} {t : TypeId} {a : Addr} {n c : Nat} (hx : ρ x = .slice (some a) n c) (hc : c ≠ 0) (h : K (.pointer (some a)) w) : OK P ⟨dst, .call ⟨.builtin .unsafeSliceData, #[x], #[t]⟩, T, pos, after, g⟩ ρ w K := by
 refine zE (v := .pointer (some a)) (w' := w) ?_ h
 simp [hx, builtin, Lib.run_unsafeSliceData_row w _ _ a n c hc]
theorem Has.freeze {E w : World} {hs : List Hp} {ss : List (List Hp)} {b : Nat} {o : Obj} (H : Has E w (hs :: ss)) (hh : hs = [Hp.one b o]) (n : Nat) : Has E (w.freeze ⟨b, 0, none⟩ n) ss := by
 subst hh
 have h0 : Has0 E w ([Hp.one b o] ++ ss.flatten) := by simpa [Has] using H
 have h1 : Has0 E (w.freeze ⟨b, 0, none⟩ n) ([] ++ ss.flatten) := by
  unfold World.freeze
  split
  · exact h0.weak (by simp)
  ·
   refine Has0.write (an := [Hp.one b o]) (an' := []) h0 rfl rfl rfl (by simp) (fun k _ => .inl (by simp)) (by simp) fun k hk hn => ?_
   have hne : b ≠ k := fun e => by
    have := hn _ (List.mem_singleton.2 rfl)
    rw [← e, Hp.one_at] at this; cases this
   simp only [Array.getElem?_modify]
   rw [if_neg (fun e => hne e)]
 simpa [Has] using h1
/-- unsafe.String of a row's bytes -/
theorem o_uStrNil {x y : Operand} {t u : TypeId} {p : Option Addr} (hx : ρ x = .pointer p) (hy : ρ y = .int .i64 0) (h : K (S []) w) : OK P ⟨dst, .call ⟨.builtin .unsafeString, #[x, y], #[t, u]⟩, T, pos, after, g⟩ ρ w K := by
 refine zE (v := S []) (w' := w) ?_ h
 simp only [hx, hy, builtin, List.map_toArray, List.map_cons, List.map_nil, Sem.run_bind, Lib.run_unsafeString_none, Result.andThen_ok, Sem.run_pure]; rfl
theorem o_uStr {x y : Operand} {t u e : TypeId} {b cap : Nat} {l : List UInt8} {hs : List Hp} (ht : P.underlying t = some (.pointer e)) (hc : P.cellsOf e = 1) (hx : ρ x = .pointer (some ⟨b, 0, none⟩)) (hy : ρ y = .int .i64 (l.length : Int))
  (ho : Own e 1 (.slice (some ⟨b, 0, none⟩) l.length cap) l.length (l.map bV) hs) (h0 : l ≠ []) (H : Has E w (hs :: ss)) (hK : ∀ w', Has E w' ss → K (S l) w') : OK P ⟨dst, .call ⟨.builtin .unsafeString, #[x, y], #[t, u]⟩, T, pos, after, g⟩ ρ w K := by
 have hrow := ho.row H
 have hcells := hrow.cells (g := b) rfl
 obtain ⟨hlc, ⟨h, _⟩ | ⟨b', cap', cur, h, hhs, hnc, hcm, hcs, _⟩⟩ := ho
 · cases h
 ·
  cases h
  have hg : w.heap[b]? = some (.cells cur e (0, 0)) := H.at (h := Hp.one b (.cells cur e (0, 0))) (by rw [hhs]; simp) (Hp.one_at _ _)
  have hr := Lib.run_unsafeString_row (P := P) w t u T e ht hc b cur.size (by simp [World.shape?, hg]) l h0 (by omega) (by unfold maxLen at hcm; omega) (fun j x hj => hcells j _ (by rw [List.getElem?_map, hj]; rfl))
  refine zE (v := S l) (w' := w.freeze ⟨b, 0, none⟩ l.length) ?_ (hK _ (H.freeze hhs _))
  simp only [hx, hy, builtin, List.map_toArray, List.map_cons, List.map_nil, Sem.run_bind, hr, Result.andThen_ok, Sem.run_pure]; rfl
/-- a pointer as unsafe.Pointer, and back -/
theorem shape_of {E w : World} {ss : List (List Hp)} {b : Nat} {cs : Array Value} {T' : TypeId} {f : Nat × Nat} (H : Has E w ss) (hL : [Hp.one b (.cells cs T' f)] ⊆ ss.flatten) : w.shape? b = some (T', cs.size) := by
 have hg : w.heap[b]? = some (.cells cs T' f) := H.at (hL (List.mem_singleton.2 rfl)) (Hp.one_at _ _)
 simp [World.shape?, hg]
theorem o_toUnsafe {x : Operand} {t u te T' : TypeId} {b : Nat} {cs : Array Value} {f : Nat × Nat} {z : Value} {sz by_ : Nat} (ht : P.underlying t = some (.pointer te)) (hu : P.underlying u = some .unsafePointer) (hj : TI P te z sz by_) (hjs : sz ≠ 0) (hx : ρ x = .pointer (some ⟨b, 0, none⟩))
  (H : Has E w ss) (hL : [Hp.one b (.cells cs T' f)] ⊆ ss.flatten) (hc : 0 < cs.size) (h : K (.pointer (some ⟨b, 0, none⟩)) w) : OK P ⟨dst, .convert t u x, T, pos, after, g⟩ ρ w K := by
 obtain ⟨j, hj, _, hsz, _⟩ := hj
 exact OK.val (z7 (by rw [hx]; exact Lib.run_to_unsafe w ⟨b, 0, none⟩ ht hu hj (by rw [hsz]; exact hjs) (shape_of H hL) hc)) h
theorem o_fromUnsafe {x : Operand} {t u te T' : TypeId} {b : Nat} {cs : Array Value} {f : Nat × Nat} {z : Value} {sz by_ : Nat} (ht : P.underlying t = some .unsafePointer) (hu : P.underlying u = some (.pointer te)) (hj : TI P te z sz by_) (hx : ρ x = .pointer (some ⟨b, 0, none⟩))
  (H : Has E w ss) (hL : [Hp.one b (.cells cs T' f)] ⊆ ss.flatten) (hl : liesAt P P.depth T' (cs.size / P.cellsOf T') 0 te 1 = true) (h : K (.pointer (some ⟨b, 0, none⟩)) w) : OK P ⟨dst, .convert t u x, T, pos, after, g⟩ ρ w K := by
 obtain ⟨j, hj, _⟩ := hj
 exact OK.val (z7 (by rw [hx]; exact Lib.run_from_unsafe w ⟨b, 0, none⟩ ht hu hj (shape_of H hL) hl)) h
theorem o_extern {c x : Operand} {f : FuncId} {ts : Array TypeId} {v v' : Value} (hv : ρ c = .func (.func f) #[] #[]) (hx : ρ x = v) (hr : (callFunc f #[v]).run P w = .ok (.value v') w) (h : K v' w) :
  OK P ⟨dst, .call ⟨.value c, #[x], ts⟩, T, pos, after, g⟩ ρ w K := by
 refine OK.val ?_ h
 simp [execOp, resolve, hv, Deferred.ofValue, invoke, hx, hr]
theorem o_pneqSame {x y : Operand} {t te t2 : TypeId} {z : Value} {sz by_ : Nat} {a : Addr} (ht : P.underlying t = some (.pointer te)) (hj : TI P te z sz by_) (hx : ρ x = .pointer (some a)) (hy : ρ y = .pointer (some a)) (h : K (.bool false) w) :
  OK P ⟨dst, .binOp .neq t x y t2, T, pos, after, g⟩ ρ w K := by
 obtain ⟨j, hj, _⟩ := hj
 exact OK.val (z7 (by rw [hx, hy]; exact Lib.run_neq_ptr_same w a ht hj)) h
end
end Go.Q
namespace Go.Q
open Go.Proofs
set_option linter.unusedVariables false
set_option maxRecDepth 100000
attribute [local irreducible] wpList OK Code.wp
set_option maxHeartbeats 4000000 in
theorem cc_f {E w : World} {R : List Hp} {bb : Nat} {v : Value} (hH : Has E w [[Hp.one bb (.cells #[(.pointer none), v] 249 (0, 0))], R]) :
  Calls Tryz.prog 264 #[(.pointer (some ⟨bb, 0, none⟩))] w fun e w' => e = .returned (.tuple #[]) ∧ Has E w' [[Hp.one bb (.cells #[(.pointer (some ⟨bb, 0, none⟩)), v] 249 (0, 0))], R] := by
 refine zs (args := [(.pointer (some ⟨bb, 0, none⟩))]) Tryz.func264 rfl Tryz.ntmps264 (by simp) ?_
 refine wp_seq_k fun K1 hK1 => ?_
 refine zb ?_
 refine za (zd (v := (.pointer (some ⟨bb, 0, none⟩))) rfl ?_)
 refine za (zl rfl ?_)
 refine za (zg (k := 0) (fun _ => by kernel_rfl) rfl ?_)
 refine za (zj (v := (.pointer none)) Tryz.underlying247 rfl rfl hH (zh 0 rfl) (CellsAt.one rfl) ?_)
 refine za (o_pnil (p := none) Tryz.underlying247 rfl rfl ?_)
 refine zf ?_
 refine zc (hK1 _ _ ?_)
 refine zN rfl rfl ?_
 refine zb ?_
 refine za (zd (v := (.pointer (some ⟨bb, 0, none⟩))) rfl ?_)
 refine za (zd (v := (.pointer (some ⟨bb, 0, none⟩))) rfl ?_)
 refine za (o_toUnsafe Tryz.underlying247 Tryz.underlying407 ti249 (by decide) rfl hH (zh 0 rfl) (Nat.zero_lt_succ 1) ?_)
 refine za (o_extern (v' := (.pointer (some ⟨bb, 0, none⟩))) rfl rfl (by rw [run_callFunc_extern Tryz.func324 (by kernel_rfl) (by kernel_rfl) (by kernel_rfl) (e := Extern.AbiNoEscape.same) (by kernel_rfl), Lib.run_noEscape]; rfl) ?_)
 refine za (o_fromUnsafe Tryz.underlying407 Tryz.underlying247 ti249 rfl hH (zh 0 rfl) (by kernel_rfl) ?_)
 refine za (zl rfl ?_)
 refine za (zg (k := 0) (fun _ => by kernel_rfl) rfl ?_)
 refine zB (zJ (c' := #[(.pointer (some ⟨bb, 0, none⟩)), v]) ti247 rfl rfl rfl (by simp) rfl (hH.front 0 rfl) fun w2 hH3 => ?_)
 refine zf ?_
 refine c_end0 Tryz.results264  ?_
 exact ⟨rfl, hH3⟩
set_option maxHeartbeats 4000000 in
theorem cc_u {E w : World} {R : List Hp} {bb : Nat} {v : Value} (hH : Has E w [[Hp.one bb (.cells #[(.pointer (some ⟨bb, 0, none⟩)), v] 249 (0, 0))], R]) :
  Calls Tryz.prog 264 #[(.pointer (some ⟨bb, 0, none⟩))] w fun e w' => e = .returned (.tuple #[]) ∧ Has E w' [[Hp.one bb (.cells #[(.pointer (some ⟨bb, 0, none⟩)), v] 249 (0, 0))], R] := by
 refine zs (args := [(.pointer (some ⟨bb, 0, none⟩))]) Tryz.func264 rfl Tryz.ntmps264 (by simp) ?_
 refine wp_seq_k fun K1 hK1 => ?_
 refine zb ?_
 refine za (zd (v := (.pointer (some ⟨bb, 0, none⟩))) rfl ?_)
 refine za (zl rfl ?_)
 refine za (zg (k := 0) (fun _ => by kernel_rfl) rfl ?_)
 refine za (zj (v := (.pointer (some ⟨bb, 0, none⟩))) Tryz.underlying247 rfl rfl hH (zh 0 rfl) (CellsAt.one rfl) ?_)
 refine za (o_pnil (p := some _) Tryz.underlying247 rfl rfl ?_)
 refine zf ?_
 refine zc (hK1 _ _ ?_)
 refine zS rfl rfl ?_
 refine wp_seq_k fun K2 hK2 => ?_
 refine zb ?_
 refine za (zd (v := (.pointer (some ⟨bb, 0, none⟩))) rfl ?_)
 refine za (zl rfl ?_)
 refine za (zg (k := 0) (fun _ => by kernel_rfl) rfl ?_)
 refine za (zj (v := (.pointer (some ⟨bb, 0, none⟩))) Tryz.underlying247 rfl rfl hH (zh 0 rfl) (CellsAt.one rfl) ?_)
 refine za (zd (v := (.pointer (some ⟨bb, 0, none⟩))) rfl ?_)
 refine za (o_pneqSame Tryz.underlying247 ti249 rfl rfl ?_)
 refine zf ?_
 refine zc (hK2 _ _ ?_)
 refine zS rfl rfl ?_
 refine wp_skip ?_
 refine c_end0 Tryz.results264  ?_
 exact ⟨rfl, hH⟩
set_option maxHeartbeats 4000000 in
theorem ws_f {E w : World} {R hs : List Hp} {bb : Nat} {v : Value} {l : List UInt8} (hH : Has E w [hs, [Hp.one bb (.cells #[(.pointer none), v] 249 (0, 0))], R]) (ho : Own 5 1 v l.length (l.map bV) hs) (hnil : l = [] → v = .slice none 0 0) (s : List UInt8) (hb : l.length + s.length ≤ 140737488355328) :
  Calls Tryz.prog 179 #[(.pointer (some ⟨bb, 0, none⟩)), (S s)] w fun e w' => ∃ v' hs', e = .returned (.tuple #[.int .i64 (s.length : Int), .nilIface]) ∧ Own 5 1 v' (l ++ s).length ((l ++ s).map bV) hs' ∧ (l ++ s = [] → v' = .slice none 0 0) ∧ Has E w' [hs', [Hp.one bb (.cells #[(.pointer (some ⟨bb, 0, none⟩)), v'] 249 (0, 0))], R] := by
 refine zs (args := [(.pointer (some ⟨bb, 0, none⟩)), (S s)]) Tryz.func179 rfl Tryz.ntmps179 (by simp) ?_
 refine wp_seq_k fun K1 hK1 => ?_
 refine zb ?_
 refine za (ze (v := (.int .i64 0)) rfl ?_)
 refine za (ze (v := Value.nilIface) rfl ?_)
 refine zf ?_
 refine zc (hK1 _ _ ?_)
 refine wp_seq_k fun K2 hK2 => ?_
 refine zb ?_
 refine za (zd (v := (.pointer (some ⟨bb, 0, none⟩))) rfl ?_)
 refine za (zk (vs := #[(.pointer (some ⟨bb, 0, none⟩))]) ca264 rfl (zF rfl) (cc_f (hH.front 1 rfl).all1) ?_)
 rintro _ w5 ⟨rfl, hX3⟩
 refine ⟨_, rfl, ?_⟩
 have hH4 : Has E w5 [[Hp.one bb (.cells #[(.pointer (some ⟨bb, 0, none⟩)), v] 249 (0, 0))], hs, R] := hX3.of_all1
 refine zf ?_
 refine zc (hK2 _ _ ?_)
 refine wp_seq_k fun K6 hK6 => ?_
 refine zb ?_
 refine za (zd (v := (.pointer (some ⟨bb, 0, none⟩))) rfl ?_)
 refine za (zd (v := (.pointer (some ⟨bb, 0, none⟩))) rfl ?_)
 refine za (zl rfl ?_)
 refine za (zg (k := 1) (fun _ => by kernel_rfl) rfl ?_)
 refine za (zj (v := v) Tryz.underlying30 rfl rfl hH4 (zh 0 rfl) (CellsAt.one rfl) ?_)
 refine za (zd (v := (S s)) rfl ?_)
 refine za (o_appstr Tryz.underlying30 Tryz.underlying9 ti5 rfl ho rfl (hH4.front 1 rfl) (by omega) fun v7 s8 w11 ho9 hn10 hH12 => ?_)
 have ho9 : Own 5 1 v7 (l ++ s).length ((l ++ s).map bV) s8 := by rw [List.length_append, List.map_append]; exact ho9
 refine za (zl rfl ?_)
 refine za (zg (k := 1) (fun _ => by kernel_rfl) rfl ?_)
 refine zB (zJ (c' := #[(.pointer (some ⟨bb, 0, none⟩)), v7]) ti30 rfl rfl ho9.one (by simp) rfl (hH12.front 1 rfl) fun w13 hH14 => ?_)
 refine zf ?_
 refine zc (hK6 _ _ ?_)
 refine wp_seq_k fun K15 hK15 => ?_
 refine zb ?_
 refine za (zd (v := (S s)) rfl ?_)
 refine za (yb Tryz.underlying9 rfl ?_)
 refine za (ze (v := (.int .i64 (s.length : Int))) rfl ?_)
 refine za (ze (v := Value.nilIface) rfl ?_)
 refine zf ?_
 refine zc (hK15 _ _ ?_)
 refine wp_ret ?_
 refine zV Tryz.results179  (v := (.int .i64 (s.length : Int))) rfl (x := Value.nilIface) rfl ?_
 have hH16 : Has E w13 [s8, [Hp.one bb (.cells #[(.pointer (some ⟨bb, 0, none⟩)), v7] 249 (0, 0))], R] := (((hH14.front 2 rfl).front 1 rfl).front 2 rfl).first 3 rfl
 exact ⟨_, _, rfl, ho9, fun h => hn10 (hnil (List.append_eq_nil_iff.1 h).1) (List.append_eq_nil_iff.1 h).2, hH16⟩
set_option maxHeartbeats 4000000 in
theorem ws_u {E w : World} {R hs : List Hp} {bb : Nat} {v : Value} {l : List UInt8} (hH : Has E w [hs, [Hp.one bb (.cells #[(.pointer (some ⟨bb, 0, none⟩)), v] 249 (0, 0))], R]) (ho : Own 5 1 v l.length (l.map bV) hs) (hnil : l = [] → v = .slice none 0 0) (s : List UInt8) (hb : l.length + s.length ≤ 140737488355328) :
  Calls Tryz.prog 179 #[(.pointer (some ⟨bb, 0, none⟩)), (S s)] w fun e w' => ∃ v' hs', e = .returned (.tuple #[.int .i64 (s.length : Int), .nilIface]) ∧ Own 5 1 v' (l ++ s).length ((l ++ s).map bV) hs' ∧ (l ++ s = [] → v' = .slice none 0 0) ∧ Has E w' [hs', [Hp.one bb (.cells #[(.pointer (some ⟨bb, 0, none⟩)), v'] 249 (0, 0))], R] := by
 refine zs (args := [(.pointer (some ⟨bb, 0, none⟩)), (S s)]) Tryz.func179 rfl Tryz.ntmps179 (by simp) ?_
 refine wp_seq_k fun K1 hK1 => ?_
 refine zb ?_
 refine za (ze (v := (.int .i64 0)) rfl ?_)
 refine za (ze (v := Value.nilIface) rfl ?_)
 refine zf ?_
 refine zc (hK1 _ _ ?_)
 refine wp_seq_k fun K2 hK2 => ?_
 refine zb ?_
 refine za (zd (v := (.pointer (some ⟨bb, 0, none⟩))) rfl ?_)
 refine za (zk (vs := #[(.pointer (some ⟨bb, 0, none⟩))]) ca264 rfl (zF rfl) (cc_u (hH.front 1 rfl).all1) ?_)
 rintro _ w5 ⟨rfl, hX3⟩
 refine ⟨_, rfl, ?_⟩
 have hH4 : Has E w5 [[Hp.one bb (.cells #[(.pointer (some ⟨bb, 0, none⟩)), v] 249 (0, 0))], hs, R] := hX3.of_all1
 refine zf ?_
 refine zc (hK2 _ _ ?_)
 refine wp_seq_k fun K6 hK6 => ?_
 refine zb ?_
 refine za (zd (v := (.pointer (some ⟨bb, 0, none⟩))) rfl ?_)
 refine za (zd (v := (.pointer (some ⟨bb, 0, none⟩))) rfl ?_)
 refine za (zl rfl ?_)
 refine za (zg (k := 1) (fun _ => by kernel_rfl) rfl ?_)
 refine za (zj (v := v) Tryz.underlying30 rfl rfl hH4 (zh 0 rfl) (CellsAt.one rfl) ?_)
 refine za (zd (v := (S s)) rfl ?_)
 refine za (o_appstr Tryz.underlying30 Tryz.underlying9 ti5 rfl ho rfl (hH4.front 1 rfl) (by omega) fun v7 s8 w11 ho9 hn10 hH12 => ?_)
 have ho9 : Own 5 1 v7 (l ++ s).length ((l ++ s).map bV) s8 := by rw [List.length_append, List.map_append]; exact ho9
 refine za (zl rfl ?_)
 refine za (zg (k := 1) (fun _ => by kernel_rfl) rfl ?_)
 refine zB (zJ (c' := #[(.pointer (some ⟨bb, 0, none⟩)), v7]) ti30 rfl rfl ho9.one (by simp) rfl (hH12.front 1 rfl) fun w13 hH14 => ?_)
 refine zf ?_
 refine zc (hK6 _ _ ?_)
 refine wp_seq_k fun K15 hK15 => ?_
 refine zb ?_
 refine za (zd (v := (S s)) rfl ?_)
 refine za (yb Tryz.underlying9 rfl ?_)
 refine za (ze (v := (.int .i64 (s.length : Int))) rfl ?_)
 refine za (ze (v := Value.nilIface) rfl ?_)
 refine zf ?_
 refine zc (hK15 _ _ ?_)
 refine wp_ret ?_
 refine zV Tryz.results179  (v := (.int .i64 (s.length : Int))) rfl (x := Value.nilIface) rfl ?_
 have hH16 : Has E w13 [s8, [Hp.one bb (.cells #[(.pointer (some ⟨bb, 0, none⟩)), v7] 249 (0, 0))], R] := (((hH14.front 2 rfl).front 1 rfl).front 2 rfl).first 3 rfl
 exact ⟨_, _, rfl, ho9, fun h => hn10 (hnil (List.append_eq_nil_iff.1 h).1) (List.append_eq_nil_iff.1 h).2, hH16⟩
set_option maxHeartbeats 4000000 in
theorem bs_nil {E w : World} {R : List Hp} {bb : Nat} {a : Value} (hH : Has E w [[Hp.one bb (.cells #[a, (.slice none 0 0)] 249 (0, 0))], R]) :
  Calls Tryz.prog 181 #[(.pointer (some ⟨bb, 0, none⟩))] w fun e w' => e = .returned (S ([] : List UInt8)) ∧ Has E w' [R] := by
 refine zs (args := [(.pointer (some ⟨bb, 0, none⟩))]) Tryz.func181 rfl Tryz.ntmps181 (by simp) ?_
 refine wp_seq_k fun K1 hK1 => ?_
 refine zb ?_
 refine za (ze (v := (S ([] : List UInt8))) rfl ?_)
 refine zf ?_
 refine zc (hK1 _ _ ?_)
 refine wp_seq_k fun K2 hK2 => ?_
 refine Rest.region mixed (by kernel_rfl) ?_
 have hH3 : Has E { w with drawn := w.drawn + 1 } [[Hp.one bb (.cells #[a, (.slice none 0 0)] 249 (0, 0))], R] := Has0.drew hH _
 refine Rest.phaseA (fun w_ => Has E w_ [[Hp.one bb (.cells #[a, (.slice none 0 0)] 249 (0, 0))]]) 0 10 10 rfl (by decide) (by kernel_rfl) ?_
 refine zr 0 rfl (by kernel_rfl) (fun w_ h_ => zd (v := (.pointer (some ⟨bb, 0, none⟩))) rfl ⟨rfl, rfl⟩) ?_
 refine zr 1 rfl (by kernel_rfl) (fun w_ h_ => zl rfl ⟨rfl, rfl⟩) ?_
 refine zr 2 rfl (by kernel_rfl) (fun w_ h_ => zg (k := 1) (fun _ => by kernel_rfl) rfl ⟨rfl, rfl⟩) ?_
 refine zr 3 rfl (by kernel_rfl) (fun w_ h_ => zj (v := (.slice none 0 0)) Tryz.underlying30 rfl rfl h_ (zh 0 rfl) (CellsAt.one rfl) ⟨rfl, rfl⟩) ?_
 refine zr 5 rfl (by kernel_rfl) (fun w_ h_ => zd (v := (.pointer (some ⟨bb, 0, none⟩))) rfl ⟨rfl, rfl⟩) ?_
 refine zr 6 rfl (by kernel_rfl) (fun w_ h_ => zl rfl ⟨rfl, rfl⟩) ?_
 refine zr 7 rfl (by kernel_rfl) (fun w_ h_ => zg (k := 1) (fun _ => by kernel_rfl) rfl ⟨rfl, rfl⟩) ?_
 refine zr 8 rfl (by kernel_rfl) (fun w_ h_ => zj (v := (.slice none 0 0)) Tryz.underlying30 rfl rfl h_ (zh 0 rfl) (CellsAt.one rfl) ⟨rfl, rfl⟩) ?_
 refine zr 9 rfl (by kernel_rfl) (fun w_ h_ => zY Tryz.underlying30 rfl (sl_nil (L := []) 1) ⟨rfl, rfl⟩) ?_
 have hH4 : Has E { w with drawn := w.drawn + 1 } [[Hp.one bb (.cells #[a, (.slice none 0 0)] 249 (0, 0))]] := hH3.first 1 rfl
 refine a_w 4 rfl (by kernel_rfl) hH4 (o_uSDnil rfl ?_)
 have hH5 : Has E { w with drawn := w.drawn + 1 } [[Hp.one bb (.cells #[a, (.slice none 0 0)] 249 (0, 0))]] := hH3.first 1 rfl
 refine zQ (by kernel_rfl) hH5 ?_
 refine zP 10 rfl (by kernel_rfl) (o_uStrNil rfl rfl ?_)
 refine zP 11 rfl (by kernel_rfl) (ze (v := (S ([] : List UInt8))) rfl ?_)
 refine Rest.done (by kernel_rfl) ?_
 refine zc (hK2 _ _ ?_)
 refine wp_ret ?_
 refine zq Tryz.results181  (v := (S ([] : List UInt8))) rfl ?_
 have hH6 : Has E { w with drawn := w.drawn + 1 } [R] := (hH3.front 1 rfl).first 1 rfl
 exact ⟨rfl, hH6⟩
set_option maxHeartbeats 4000000 in
theorem bs_row {E w : World} {R : List Hp} {bb : Nat} {a : Value} {g cap : Nat} {hs : List Hp} {l : List UInt8} (hH : Has E w [hs, [Hp.one bb (.cells #[a, (.slice (some ⟨g, 0, none⟩) l.length cap)] 249 (0, 0))], R]) (ho : Own 5 1 (.slice (some ⟨g, 0, none⟩) l.length cap) l.length (l.map bV) hs) (hne : l ≠ []) (hcap : cap ≠ 0) :
  Calls Tryz.prog 181 #[(.pointer (some ⟨bb, 0, none⟩))] w fun e w' => e = .returned (S l) ∧ Has E w' [R] := by
 refine zs (args := [(.pointer (some ⟨bb, 0, none⟩))]) Tryz.func181 rfl Tryz.ntmps181 (by simp) ?_
 refine wp_seq_k fun K1 hK1 => ?_
 refine zb ?_
 refine za (ze (v := (S ([] : List UInt8))) rfl ?_)
 refine zf ?_
 refine zc (hK1 _ _ ?_)
 refine wp_seq_k fun K2 hK2 => ?_
 refine Rest.region mixed (by kernel_rfl) ?_
 have hH3 : Has E { w with drawn := w.drawn + 1 } [hs, [Hp.one bb (.cells #[a, (.slice (some ⟨g, 0, none⟩) l.length cap)] 249 (0, 0))], R] := Has0.drew hH _
 refine Rest.phaseA (fun w_ => Has E w_ [[Hp.one bb (.cells #[a, (.slice (some ⟨g, 0, none⟩) l.length cap)] 249 (0, 0))]]) 0 10 10 rfl (by decide) (by kernel_rfl) ?_
 refine zr 0 rfl (by kernel_rfl) (fun w_ h_ => zd (v := (.pointer (some ⟨bb, 0, none⟩))) rfl ⟨rfl, rfl⟩) ?_
 refine zr 1 rfl (by kernel_rfl) (fun w_ h_ => zl rfl ⟨rfl, rfl⟩) ?_
 refine zr 2 rfl (by kernel_rfl) (fun w_ h_ => zg (k := 1) (fun _ => by kernel_rfl) rfl ⟨rfl, rfl⟩) ?_
 refine zr 3 rfl (by kernel_rfl) (fun w_ h_ => zj (v := (.slice (some ⟨g, 0, none⟩) l.length cap)) Tryz.underlying30 rfl rfl h_ (zh 0 rfl) (CellsAt.one rfl) ⟨rfl, rfl⟩) ?_
 refine zr 5 rfl (by kernel_rfl) (fun w_ h_ => zd (v := (.pointer (some ⟨bb, 0, none⟩))) rfl ⟨rfl, rfl⟩) ?_
 refine zr 6 rfl (by kernel_rfl) (fun w_ h_ => zl rfl ⟨rfl, rfl⟩) ?_
 refine zr 7 rfl (by kernel_rfl) (fun w_ h_ => zg (k := 1) (fun _ => by kernel_rfl) rfl ⟨rfl, rfl⟩) ?_
 refine zr 8 rfl (by kernel_rfl) (fun w_ h_ => zj (v := (.slice (some ⟨g, 0, none⟩) l.length cap)) Tryz.underlying30 rfl rfl h_ (zh 0 rfl) (CellsAt.one rfl) ⟨rfl, rfl⟩) ?_
 refine zr 9 rfl (by kernel_rfl) (fun w_ h_ => zY Tryz.underlying30 rfl ho.sl ⟨rfl, rfl⟩) ?_
 have hH4 : Has E { w with drawn := w.drawn + 1 } [[Hp.one bb (.cells #[a, (.slice (some ⟨g, 0, none⟩) l.length cap)] 249 (0, 0))]] := (hH3.front 1 rfl).first 1 rfl
 refine a_w 4 rfl (by kernel_rfl) hH4 (o_uSD (a := ⟨g, 0, none⟩) rfl hcap ?_)
 have hH5 : Has E { w with drawn := w.drawn + 1 } [[Hp.one bb (.cells #[a, (.slice (some ⟨g, 0, none⟩) l.length cap)] 249 (0, 0))]] := (hH3.front 1 rfl).first 1 rfl
 refine zQ (by kernel_rfl) hH5 ?_
 refine zP 10 rfl (by kernel_rfl) (o_uStr Tryz.underlying356 (by kernel_rfl) rfl rfl ho hne hH3 fun w6 hH7 => ?_)
 refine zP 11 rfl (by kernel_rfl) (ze (v := (S l)) rfl ?_)
 refine Rest.done (by kernel_rfl) ?_
 refine zc (hK2 _ _ ?_)
 refine wp_ret ?_
 refine zq Tryz.results181  (v := (S l)) rfl ?_
 have hH8 : Has E w6 [R] := (hH7.front 1 rfl).first 1 rfl
 exact ⟨rfl, hH8⟩
/-- A builder that holds these bytes. -/
def Bld (b : Nat) (l : List UInt8) (sg : List Hp) : Prop := ∃ a v hs, sg = hs ++ [Hp.one b (.cells #[a, v] 249 (0, 0))] ∧ (a = .pointer none ∨ a = .pointer (some ⟨b, 0, none⟩)) ∧ Own 5 1 v l.length (l.map bV) hs ∧ (l = [] → v = .slice none 0 0)
theorem Bld.new (b : Nat) : Bld b [] [Hp.one b (.cells #[.pointer none, .slice none 0 0] 249 (0, 0))] := ⟨_, _, [], rfl, .inl rfl, Own.nil 5 1, fun _ => rfl⟩
theorem bws {E w : World} {R sg : List Hp} {b : Nat} {l : List UInt8} (hH : Has E w [sg, R]) (hB : Bld b l sg) (s : List UInt8) (hb : l.length + s.length ≤ 140737488355328) :
  Calls Tryz.prog 179 #[.pointer (some ⟨b, 0, none⟩), S s] w fun e w' => ∃ sg', e = .returned (.tuple #[.int .i64 (s.length : Int), .nilIface]) ∧ Bld b (l ++ s) sg' ∧ Has E w' [sg', R] := by
 obtain ⟨a, v, hs, rfl, rfl | rfl, ho, hn⟩ := hB
 · exact (ws_f hH.open2 ho hn s hb).mono fun e w' ⟨v', hs', he, ho', hn', hH'⟩ => ⟨_, he, ⟨_, _, _, rfl, .inr rfl, ho', hn'⟩, hH'.close2⟩
 · exact (ws_u hH.open2 ho hn s hb).mono fun e w' ⟨v', hs', he, ho', hn', hH'⟩ => ⟨_, he, ⟨_, _, _, rfl, .inr rfl, ho', hn'⟩, hH'.close2⟩
theorem bstr {E w : World} {R sg : List Hp} {b : Nat} {l : List UInt8} (hH : Has E w [sg, R]) (hB : Bld b l sg) :
  Calls Tryz.prog 181 #[.pointer (some ⟨b, 0, none⟩)] w fun e w' => e = .returned (S l) ∧ Has E w' [R] := by
 obtain ⟨a, v, hs, rfl, _, ho, hn⟩ := hB
 by_cases hl : l = []
 ·
  obtain rfl := hn hl
  subst hl
  exact bs_nil hH.open2.drop
 ·
  have ho2 := ho
  obtain ⟨hlc, ⟨_, h, _⟩ | ⟨g, cap, cur, rfl, rfl, hnc, _⟩⟩ := ho
  · exact absurd (List.eq_nil_of_length_eq_zero h) hl
  · exact bs_row hH.open2 ho2 hl (fun e => hl (List.eq_nil_of_length_eq_zero (by omega)))
end Go.Q
