/-
  Parts of a walk: what functions of the program compute, each told by a theorem (Qsr1, Qsr2, Qsr3, QsL11, QYD, QsRd).
-/
import Derived.Test.YtmfppdpfljpphaaGreatDoorB5
import Derived.OpenShut
set_option linter.unusedVariables false
set_option linter.unusedSimpArgs false
set_option maxHeartbeats 4000000
set_option linter.unnecessarySimpa false
namespace Go.Q
open Go.Proofs
set_option linter.unusedVariables false
set_option maxRecDepth 100000
attribute [local irreducible] wpList OK Code.wp
def RunAt (db : Nat) (sb : Nat) (b : Nat) (sg : List Hp) (v : RunS) : Prop := ∃ (x2 : Value) (h2 : List Hp), sg = ((yo b #[(yp db), (yp sb), x2, (yi v.flushed), (yi v.reserved), (yi v.room), (yi v.start), (yi v.tail), (yi v.mark)] 55) ++ h2) ∧ (Own 42 3 x2 v.l.length (v.l.flatMap enC) h2)
def RunRd (db : Nat) (sb : Nat) (R : List Hp) (b : Nat) (v : RunS) : Prop := ∃ (x2 : Value), CellsAt R b 0 [(yp db), (yp sb), x2, (yi v.flushed), (yi v.reserved), (yi v.room), (yi v.start), (yi v.tail), (yi v.mark)] ∧ (Sl R 3 x2 v.l.length (v.l.flatMap enC))
theorem RunAt.mk {db : Nat} {sb : Nat} {b : Nat} {v : RunS} {x2 : Value} {h2 : List Hp} (f2 : Own 42 3 x2 v.l.length (v.l.flatMap enC) h2) : RunAt db sb b (((yo b #[(yp db), (yp sb), x2, (yi v.flushed), (yi v.reserved), (yi v.room), (yi v.start), (yi v.tail), (yi v.mark)] 55) ++ h2)) v := ⟨_, _, rfl, f2⟩
theorem RunRd.mk {db : Nat} {sb : Nat} {R : List Hp} {b : Nat} {v : RunS} {x2 : Value} (hc : CellsAt R b 0 [(yp db), (yp sb), x2, (yi v.flushed), (yi v.reserved), (yi v.room), (yi v.start), (yi v.tail), (yi v.mark)]) (f2 : Sl R 3 x2 v.l.length (v.l.flatMap enC)) : RunRd db sb R b v := ⟨_, hc, f2⟩
theorem RunRd.mono {db : Nat} {sb : Nat} {R R' : List Hp} {b : Nat} {v : RunS} (h : RunRd db sb R b v) (hs : R ⊆ R') : RunRd db sb R' b v := by
 obtain ⟨x2, hc, f2⟩ := h
 exact RunRd.mk (hc.mono hs) (f2.mono hs)
theorem RunAt.rd {db : Nat} {sb : Nat} {b : Nat} {sg : List Hp} {v : RunS} (h : RunAt db sb b sg v) : RunRd db sb sg b v := by
 obtain ⟨x2, h2, rfl, f2⟩ := h
 exact RunRd.mk ((CellsAt.one rfl).mono (fun _ g_ => List.mem_append_left _ g_)) (f2.sl.mono (fun _ g_ => List.mem_append_right _ (g_)))
theorem rlast_c {E w : World} {R : List Hp} {rb : Nat} {db : Nat} {sb : Nat} {r : RunS}  (hH : Has E w [R]) (h_rb : RunRd db sb R rb r) (hlr : r.l.length ≤ 1000000) :
  Calls Tryz.prog 24 #[(yp rb)] w fun e w' => e = .returned (yi (lastR r)) ∧ Has E w' [R] := by
 obtain ⟨x1, hc3, f2⟩ := h_rb
 have f2_n := f2.le
 refine zs (args := [(yp rb)]) Tryz.func24 rfl Tryz.ntmps24 (by simp) (yq fun K4 hK4 => (zd (za (zc (yi 0) rfl (zf (ze (hK4 _ _ (yq fun K5 hK5 => (yq fun K6 hK6 => (zd (za (zb (yp rb) rfl (za (zl rfl (za (zg (k := 2) (fun _ => by kernel_rfl) rfl (za (zj (v := x1) Tryz.underlying37 rfl rfl hH (zh 0 rfl) (CellsAt.field (k := 2) (ds := [x1]) hc3 rfl) (za (zQ Tryz.underlying37 rfl f2 (za (o_gtr (a := ((r.l.length : Nat) : Int)) (b := 0) rfl rfl ?_))))))))))))))))))))))
 refine zf (ze (hK6 _ _ (zt rfl (fun h7 => ?_) (fun h7 => ?_))))
 ·
  refine yq fun K8 hK8 => (Rest.region mixed (by kernel_rfl) ?_)
  have hH9 : Has E { w with drawn := w.drawn + 1 } [R] := Has0.drew hH _
  refine Rest.phaseA (fun w_ => Has E w_ [R]) 0 17 17 rfl (by decide) (by kernel_rfl) (zn 0 rfl (by kernel_rfl) (fun w_ h_ => zb (yp rb) rfl ⟨rfl, rfl⟩) (zn 1 rfl (by kernel_rfl) (fun w_ h_ => zl rfl ⟨rfl, rfl⟩) (zn 2 rfl (by kernel_rfl) (fun w_ h_ => zg (k := 8) (fun _ => by kernel_rfl) rfl ⟨rfl, rfl⟩) (zn 3 rfl (by kernel_rfl) (fun w_ h_ => zj (v := (yi r.mark)) Tryz.underlying3 rfl rfl h_ (zh 0 rfl) (CellsAt.field (k := 8) (ds := [(yi r.mark)]) hc3 rfl) ⟨rfl, rfl⟩) (zn 4 rfl (by kernel_rfl) (fun w_ h_ => zb (yp rb) rfl ⟨rfl, rfl⟩) (zn 5 rfl (by kernel_rfl) (fun w_ h_ => zl rfl ⟨rfl, rfl⟩) (zn 6 rfl (by kernel_rfl) (fun w_ h_ => zg (k := 2) (fun _ => by kernel_rfl) rfl ⟨rfl, rfl⟩) (zn 7 rfl (by kernel_rfl) (fun w_ h_ => zj (v := x1) Tryz.underlying37 rfl rfl h_ (zh 0 rfl) (CellsAt.field (k := 2) (ds := [x1]) hc3 rfl) ⟨rfl, rfl⟩) (zn 8 rfl (by kernel_rfl) (fun w_ h_ => zb (yp rb) rfl ⟨rfl, rfl⟩) (zn 9 rfl (by kernel_rfl) (fun w_ h_ => zl rfl ⟨rfl, rfl⟩) (zn 10 rfl (by kernel_rfl) (fun w_ h_ => zg (k := 2) (fun _ => by kernel_rfl) rfl ⟨rfl, rfl⟩) (zn 11 rfl (by kernel_rfl) (fun w_ h_ => zj (v := x1) Tryz.underlying37 rfl rfl h_ (zh 0 rfl) (CellsAt.field (k := 2) (ds := [x1]) hc3 rfl) ⟨rfl, rfl⟩) (zn 12 rfl (by kernel_rfl) (fun w_ h_ => zQ Tryz.underlying37 rfl f2 ⟨rfl, rfl⟩) (zn 13 rfl (by kernel_rfl) (fun w_ h_ => o_sub (a := ((r.l.length : Nat) : Int)) (b := 1) rfl rfl (w64 (by omega) (by omega)) ⟨rfl, rfl⟩) ?_))))))))))))))
  obtain ⟨x13, hx14⟩ : ∃ x_, r.l[(((r.l.length : Nat) : Int) - 1).toNat]? = some x_ := zN (by omega)
  obtain ⟨b10, o11, hc12, ho15⟩ := ix_exF enC_len Tryz.underlying37 ti42 f2 (by omega) hx14
  refine zn 14 rfl (by kernel_rfl) (fun w_ h_ => ho15 rfl rfl ⟨rfl, rfl⟩) (zn 15 rfl (by kernel_rfl) (fun w_ h_ => zg (k := o11) (fun _ => by kernel_rfl) rfl ⟨rfl, rfl⟩) (zn 16 rfl (by kernel_rfl) (fun w_ h_ => zj (v := (yi x13.gsn)) Tryz.underlying3 rfl rfl h_ (zh 0 rfl) (CellsAt.field (k := 0) (ds := [(yi x13.gsn)]) hc12 rfl) ⟨rfl, rfl⟩) (zM (by kernel_rfl) hH9 (zO 17 rfl (by kernel_rfl) (o_max (a := r.mark) (b := x13.gsn) rfl rfl (zO 18 rfl (by kernel_rfl) (zc (yi (max r.mark x13.gsn)) rfl (Rest.done (by kernel_rfl) (ze (hK8 _ _ (wp_ret (zx (zr Tryz.results24  (v := (yi (max r.mark x13.gsn))) rfl ?_)))))))))))))
  have q16 : (lastR r) = max r.mark x13.gsn := by rw [lastR_some (show r.l[r.l.length - 1]? = some _ from by rw [show r.l.length - 1 = ((r.l.length : Int) - 1).toNat by omega]; exact hx14)]
  exact ⟨by rw [q16], hH9⟩
 ·
  refine wp_skip (ze (hK5 _ _ (yq fun K17 hK17 => (zd (za (zb (yp rb) rfl (za (zl rfl (za (zg (k := 8) (fun _ => by kernel_rfl) rfl (za (zj (v := (yi r.mark)) Tryz.underlying3 rfl rfl hH (zh 0 rfl) (CellsAt.field (k := 8) (ds := [(yi r.mark)]) hc3 rfl) (za (zc (yi r.mark) rfl (zf (ze (hK17 _ _ (wp_ret (zr Tryz.results24  (v := (yi r.mark)) rfl ?_)))))))))))))))))))
  have q18 : (lastR r) = r.mark := by exact lastR_none (by omega)
  exact ⟨by rw [q18], hH⟩
end Go.Q
namespace Go.Q
open Go.Proofs
set_option linter.unusedVariables false
set_option maxRecDepth 100000
attribute [local irreducible] wpList OK Code.wp
theorem new_nilN {E w : World} {R : List Hp} (hH : Has E w [R]) {x : Int} {n : Nat} (hx : x = (n : Int)) (hn : 1 ≤ n ∧ n ≤ 4096) :
  Calls Tryz.prog 12 #[(.pointer none), (yi x)] w fun e w' => ∃ db pb sg, e = .returned (yp db) ∧ DevAt pb sg db (List.replicate n blankS) [] ∧ Has E w' [sg, (yo pb #[(.bool false), (.bool false), (yi 0), (yi 0)] 145), R] := by
 subst hx
 exact new_nil hH hn
theorem begin8_c {E w : World} {R : List Hp} (hH : Has E w [R]) (hg : CellsAt R 0 0 nibV) {kk : Nat} (hkk : 3 ≤ kk ∧ kk ≤ 42) {x : Int} (hx : x = (kk : Int) + 2) :
  Calls Tryz.prog 20 #[(yi x)] w fun e w' => ∃ rb sr sb ss ab db sg pb, e = .returned (yp rb) ∧ RunAt db sb rb sr (runOf (kk : Int) (c8v kk)) ∧ StmAt db ab sb ss (c8v kk) ∧ DevAt pb sg db (c8d kk).la (c8d kk).lo ∧ Has E w' [sr, ss, (yo ab #[(yp db), (yi 2), (yi (kk : Int))] 265), sg, (yP pb (c8d kk).p), R] := by
 have hzl_ : (c8z kk).la.length = kk + 2 := by unfold c8z; simp
 refine zs (args := [(yi x)]) Tryz.func20 rfl Tryz.ntmps20 (by simp) (yq fun K1 hK1 => (zd (za (zc (.pointer none) rfl (zf (ze (hK1 _ _ (yq fun K2 hK2 => (zd (za (zb (yi x) rfl (za (zk (vs := #[(.pointer none), (yi x)]) ca12 rfl (zF rfl rfl) (new_nilN hH.all (x := x) (n := kk + 2) (by omega) (by omega)) ?_)))))))))))))
 rintro _ w9 ⟨db3, pb4, sg5, rfl, hd6, hX7⟩
 refine ⟨_, rfl, ?_⟩
 have hH8 := hX7.of_all2
 have hH10 := hH8
 have hd11 : DevAt pb4 sg5 db3 (c8z kk).la (c8z kk).lo := hd6
 refine za (zc (yp db3) rfl (zf (ze (hK2 _ _ (yq fun K12 hK12 => (zd (za (zb (yp db3) rfl (za (zk (vs := #[(yp db3)]) ca31 rfl (zI rfl) (sformat_c (d := (c8z kk)) ((hH10.front 1 rfl).front 1 rfl).all2 hd11 Few.new (by omega) (LoOk.nil _) (by omega) (by omega) rfl (hg.mono (zh 0 rfl)) (c8_ok hkk).1) ?_))))))))))
 rintro _ w21 ⟨sb13, ab14, sg15, ss16, rfl, hd17, hs18, hX19⟩
 refine ⟨_, rfl, ?_⟩
 have hH20 := hX19.of_all4
 have hH22 : Has E w21 [ss16, (yo ab14 #[(yp db3), (yi 2), (yi (kk : Int))] 265), sg15, (yP pb4 ((fmS (c8z kk)).2.2).p), R] := by have h_ := hH20; rw [show (((c8z kk).la.length : Nat) : Int) - 2 = (kk : Int) from by omega] at h_; exact h_
 have hH23 := hH22
 have hd24 : DevAt pb4 sg15 db3 (c8d kk).la (c8d kk).lo := hd17
 have hd25 : StmAt db3 ab14 sb13 ss16 (c8v kk) := hs18
 refine za (zb (.tuple #[(yp sb13), (yi (0 : Int))]) rfl (za (zp (v := (yp sb13)) rfl rfl (za (zp (v := (yi (0 : Int))) rfl rfl (za (zc (yp sb13) rfl (za (zc (yi (0 : Int)) rfl (zf (ze (hK12 _ _ (yq fun K26 hK26 => (yq fun K27 hK27 => (zd (za (zb (yp db3) rfl (za (o_pnil (p := some _) Tryz.underlying25 rfl rfl (za (zb (.bool false) rfl (zo 15 rfl rfl (zb (yp sb13) rfl (zo 15 rfl rfl (o_pnil (p := some _) Tryz.underlying34 rfl rfl ?_)))))))))))))))))))))))))
 refine za (zm (u := (.bool false)) rfl rfl (za (zb (.bool false) rfl (zo 19 rfl rfl (zb (yi (0 : Int)) rfl (zo 19 rfl rfl (o_neq (a := (0 : Int)) (b := 0) rfl rfl (za (zm (u := (.bool (decide ((0 : Int) ≠ 0)))) rfl rfl (zf (ze (hK27 _ _ (zt rfl (fun h28 => ?_) (fun h28 => ?_))))))))))))))
 ·
  exact absurd h28 (by decide)
 ·
  refine wp_skip (ze (hK26 _ _ (yq fun K29 hK29 => (zd (za (zb (yp db3) rfl (za (zb (yp sb13) rfl (za (zb (yi x) rfl (za (o_sub (a := x) (b := 2) rfl rfl (w64 (by omega) (by omega)) (za (o_mul (a := 64) (b := x - 2) rfl rfl (w64 (by omega) (by omega)) (za (zJ (v := (.agg #[(yp db3), (yp sb13), (.slice none 0 0), (yi 0), (yi 0), (yi (64 * (x - 2))), (yi 0), (yi 0), (yi 0)])) (fun _ => by kernel_rfl) (za (o_box (cs := #[(yp db3), (yp sb13), (.slice none 0 0), (yi 0), (yi 0), (yi (64 * (x - 2))), (yi 0), (yi 0), (yi 0)]) rfl rfl hH23 fun b30 w31 hH32 => (za (zc (yp b30) rfl (zf (ze (hK29 _ _ (wp_ret ?_))))))))))))))))))))))))
  refine zr Tryz.results20  (v := (yp b30)) rfl ?_
  have hH33 := Has.nil hH32
  have hH34 := Has.cl2 (hH33.front 1 rfl)
  have hd35 : RunAt db3 sb13 b30 ((yo b30 #[(yp db3), (yp sb13), (.slice none 0 0), (yi 0), (yi 0), (yi (64 * (x - 2))), (yi 0), (yi 0), (yi 0)] 55) ++ []) (⟨([] : List LEnt), 0, 0, 64 * (x - 2), 0, 0, 0⟩ : RunS) := RunAt.mk (v := (⟨([] : List LEnt), 0, 0, 64 * (x - 2), 0, 0, 0⟩ : RunS)) (Own.nil 42 3)
  have hr_ : RunAt db3 sb13 b30 ((yo b30 #[(yp db3), (yp sb13), (.slice none 0 0), (yi 0), (yi 0), (yi (64 * (x - 2))), (yi 0), (yi 0), (yi 0)] 55) ++ []) (runOf (kk : Int) (c8v kk)) := by rw [show runOf (kk : Int) (c8v kk) = (⟨([] : List LEnt), 0, 0, 64 * (x - 2), 0, 0, 0⟩ : RunS) from by rw [(c8_ok hkk).2.1]; show RunS.mk [] 0 0 (64 * (kk : Int)) 0 0 0 = _; rw [show 64 * (kk : Int) = 64 * (x - 2) by omega]]; exact hd35
  exact ⟨_, _, _, _, _, _, _, _, rfl, hr_, hd25, hd24, hH34⟩
end Go.Q
namespace Go.Q
open Go.Proofs
set_option linter.unusedVariables false
set_option maxRecDepth 100000
attribute [local irreducible] wpList OK Code.wp
theorem join8_c {E w : World} {R : List Hp} (hH : Has E w [R]) {v : Value} {l : List Bs} (hv : Sl R 1 v l.length (l.map sV)) (hn : ∀ t ∈ l, t.length ≤ 140737488355328) (hl : l.length ≤ 1000) :
  Calls Tryz.prog 103 #[v] w fun e w' => e = .returned (S l.flatten) ∧ Has E w' [R] := by
 refine zs (args := [v]) Tryz.func103 rfl Tryz.ntmps103 (by simp) (yq fun K1 hK1 => (zd (za (zc (S ([] : List UInt8)) rfl (zf (ze (hK1 _ _ (yq fun K2 hK2 => (zd (za (zc (S ([] : List UInt8)) rfl (zf (ze (hK2 _ _ (yq fun K3 hK3 => (yq fun K4 hK4 => (zd (za (zc (yi 0) rfl ?_)))))))))))))))))))
 refine zf (ze (hK4 _ _ (wp_block ?_)))
 let I6 : Nat → (Nat → Value) → World → Prop := fun n__ r__ w__ => ∃ (k : Nat) (t : Bs), n__ = l.length - k ∧ Has E w__ [R] ∧ (k ≤ l.length) ∧ (t = (l.take k).flatten) ∧ (t.length ≤ k * 140737488355328) ∧ r__ 0 = v ∧ r__ 2 = (S ([] : List UInt8)) ∧ r__ 3 = (S t) ∧ r__ 4 = (yi (k : Int))
 refine zX I6 _ ⟨0, ([] : Bs), rfl, hH, Nat.zero_le _, (by simp), (by simp), rfl, rfl, rfl, rfl⟩ ?_
 rintro n_ r9 w7 ⟨k, t, rfl, hH8, hk, ht, htl, e5_0, e5_2, e5_3, e5_4⟩
 refine yq fun K10 hK10 => (yq fun K11 hK11 => (zd (za (zb (yi (k : Int)) e5_4 (za (zb v e5_0 (za (zQ Tryz.underlying46 rfl hv (za (zL (a := (k : Int)) (b := ((l.length : Nat) : Int)) rfl rfl (zf (ze (hK11 _ _ (zt rfl (fun h12 => ?_) (fun h12 => ?_)))))))))))))))
 ·
  refine wp_skip (ze (hK10 _ _ (yq fun K13 hK13 => (wp_block (zd (za (zb (S t) e5_3 (za (zb v e5_0 (za (zb (yi (k : Int)) e5_4 ?_)))))))))))
  obtain ⟨x17, hx18⟩ : ∃ x_, l[((k : Int)).toNat]? = some x_ := zN (by omega)
  refine za (z6 Tryz.underlying46 ti9 rfl hv rfl (by omega) hx18 fun b14 o15 hc16 => (za (zj (v := (S x17)) Tryz.underlying9 rfl rfl hH8 (zh 0 rfl) hc16 (za (o_sadd rfl rfl (by have := hn _ (List.mem_of_getElem? (by assumption)); first | omega | (simp only [List.length_append]; omega)) (za (zc (S (t ++ x17)) rfl (zf (zC (ze (hK13 _ _ (zd (za (zb (yi (k : Int)) e5_4 (za (zD (a := (k : Int)) (b := 1) rfl rfl (w64 (by omega) (by omega)) (za (zc (yi ((k : Int) + 1)) rfl (zf (ze ⟨l.length - (k + 1), _, rfl, ?_, ?_⟩))))))))))))))))))))
  · omega
  · exact ⟨(k + 1), (t ++ x17), rfl, hH8, (by omega), (by rw [flatten_take_succ (show l[k]? = some _ from hx18), ← ht]), (by have := hn _ (List.mem_of_getElem? hx18); simp only [List.length_append]; omega), e5_0, e5_2, rfl, rfl⟩
 ·
  refine wp_exit (zy (zy (x_in ((ze (hK3 _ _ (yq fun K19 hK19 => (zd (za (zb (S t) e5_3 (za (zc (S t) rfl (zf (ze (hK19 _ _ (wp_ret (zr Tryz.results103  (v := (S t)) rfl ?_)))))))))))))))))
  have e_ : k = l.length := by omega
  rw [e_, List.take_of_length_le (Nat.le_refl _)] at ht
  exact ⟨by rw [ht], hH8⟩
theorem does8_c {E w : World} {R sr ss : List Hp} {db ab sb rb : Nat} {n : Int} {v : StmS} {r : RunS} (hrv : r = runOf n v) (hH : Has E w [sr, ss, R]) (hr : RunAt db sb rb sr r) (hs : StmAt db ab sb ss v) (h_ab : CellsAt R ab 0 [.pointer (some ⟨db, 0, none⟩), .int .i64 2, .int .i64 n]) (hok : StmOk n v) (her : v.err = 0) (hct : v.cut = true) (hla : lastV v ≤ 1000000) {vd : Value} {x : Bs} (hvd : Sl R 1 vd [x].length ([x].map sV)) (hx : x.length ≤ 140737488355328) :
  Calls Tryz.prog 21 #[(yp rb), (.agg #[(yi 0), (yi 2), vd])] w fun e w' => ∃ bo sr' ss', e = .returned (.tuple #[.bool bo, .bool false]) ∧ RunAt db sb rb sr' (runOf n (apS n v (lastV v + 2) ([x] : List Bs).flatten)) ∧ StmAt db ab sb ss' (apS n v (lastV v + 2) ([x] : List Bs).flatten) ∧ Has E w' [sr', ss', R] := by
 obtain ⟨hle1_, hle2_⟩ := hok.le
 obtain ⟨hn1_, hn2_⟩ := hok.num
 obtain ⟨hm1_, hm2_⟩ := hok.mrk
 obtain ⟨hs1_, hs2_⟩ := hok.st
 have ht_ := hok.tail
 obtain ⟨hr1_, hr2_⟩ := hok.res
 obtain ⟨hf1_, hf2_⟩ := hok.fl
 obtain ⟨hla1_, hla2_, hla3_⟩ := last_le hok
 have hfv_ : freeV n v = n * 64 - (v.tail - v.st) - v.res := rfl
 have hr0_ := ready_zero her hct
 have hw1_ : lastR r = lastV v := by rw [hrv]; rfl
 have hq1_ : r.room = 64 * n ∧ r.tail = v.tail ∧ r.start = v.st ∧ r.reserved = v.res ∧ r.l.length = v.l.length := by rw [hrv]; exact ⟨rfl, rfl, rfl, rfl, rfl⟩
 obtain ⟨hq1_, hq2_, hq3_, hq4_, hq5_⟩ := hq1_
 have hxf_ : ([x] : List Bs).flatten.length = x.length := by simp
 refine zs (args := [(yp rb), (.agg #[(yi 0), (yi 2), vd])]) Tryz.func21 rfl Tryz.ntmps21 (by simp) (yq fun K1 hK1 => (zd (za (o_box (cs := #[(yi 0), (yi 2), vd]) rfl rfl hH fun b2 w3 hH4 => (za (zc (.bool false) rfl (za (zc (.bool false) rfl (zf (ze (hK1 _ _ (yq fun K5 hK5 => (zd (za (zg (k := 2) (fun _ => by kernel_rfl) rfl (za (zj (v := vd) Tryz.underlying46 rfl rfl hH4 (zh 0 rfl) (CellsAt.one rfl) (za (zk (vs := #[vd]) ca103 rfl (zI rfl) (join8_c hH4.all (l := [x]) (hvd.mono (zh 3 rfl)) (fun t_ ht_ => by rw [List.mem_singleton.1 ht_]; exact hx) (by simp)) ?_)))))))))))))))))))
 rintro _ w8 ⟨rfl, hX6⟩
 refine ⟨_, rfl, ?_⟩
 have hH7 := hX6.of_all
 refine za (zc (S ([x].flatten)) rfl (zf (ze (hK5 _ _ (yq fun K9 hK9 => (zd (za (zb (S ([x].flatten)) rfl (za (z8 Tryz.underlying9 rfl (za (zD (a := 25) (b := (([x].flatten).length : Int)) rfl rfl (w64 (by omega) (by omega)) (za (zc (yi (25 + (([x].flatten).length : Int))) rfl (zf (ze (hK9 _ _ (yq fun K10 hK10 => (zd (za (zc (yi 0) rfl (zf ?_))))))))))))))))))))))
 refine ze (hK10 _ _ (yq fun K11 hK11 => (zd (za (zc (yi 0) rfl (zf (ze (hK11 _ _ (yq fun K12 hK12 => (yq fun K13 hK13 => (zd (za (zg (k := 0) (fun _ => by kernel_rfl) rfl (za (zj (v := (yi 0)) Tryz.underlying3 rfl rfl hH7 (zh 0 rfl) (CellsAt.one rfl) (zf (ze (hK13 _ _ (wp_block (yq fun K14 hK14 => ?_))))))))))))))))))))
 refine yq fun K15 hK15 => (zd (za (yc (a := 0) (b := 0) rfl rfl (za (zc (.bool true) rfl (zf (ze (hK15 _ _ (zP rfl rfl (wp_skip (ze (hK14 _ _ (zP rfl rfl (yq fun K16 hK16 => (Rest.region mixed (by kernel_rfl) ?_)))))))))))))))
 have hH17 : Has E { w8 with drawn := w8.drawn + 1 } [(yo b2 #[(yi 0), (yi 2), vd] 53), sr, ss, R] := Has0.drew hH7 _
 refine Rest.phaseA (fun w_ => Has E w_ [(yo b2 #[(yi 0), (yi 2), vd] 53)]) 0 4 4 rfl (by decide) (by kernel_rfl) (zn 0 rfl (by kernel_rfl) (fun w_ h_ => zb (yp rb) rfl ⟨rfl, rfl⟩) (zn 2 rfl (by kernel_rfl) (fun w_ h_ => zg (k := 1) (fun _ => by kernel_rfl) rfl ⟨rfl, rfl⟩) (zn 3 rfl (by kernel_rfl) (fun w_ h_ => zj (v := (yi 2)) Tryz.underlying3 rfl rfl h_ (zh 0 rfl) (CellsAt.one rfl) ⟨rfl, rfl⟩) ?_)))
 have hH18 := hH17.first 1 rfl
 refine a_w 1 rfl (by kernel_rfl) hH18 (zk (vs := #[(yp rb)]) ca24 rfl (zI rfl) (rlast_c (r := r) (db := db) (sb := sb) hH17.all (hr.rd.mono (zh 1 rfl)) (by omega)) ?_)
 rintro _ w21 ⟨rfl, hX19⟩
 refine ⟨_, rfl, ?_⟩
 have hH20 := hX19.of_all
 have hH22 := hH20.first 1 rfl
 refine zM (by kernel_rfl) hH22 (zO 4 rfl (by kernel_rfl) (zD (a := (lastR r)) (b := 2) rfl rfl (w64 (by omega) (by omega)) (zO 5 rfl (by kernel_rfl) (zc (yi ((lastR r) + 2)) rfl (Rest.done (by kernel_rfl) (ze (hK16 _ _ (yq fun K23 hK23 => (Rest.region mixed (by kernel_rfl) ?_)))))))))
 have hH24 : Has E { w21 with drawn := w21.drawn + 1 } [(yo b2 #[(yi 0), (yi 2), vd] 53), sr, ss, R] := Has0.drew hH20 _
 obtain ⟨x25, s26, rfl, f27⟩ := hr
 have hH28 : Has E { w21 with drawn := w21.drawn + 1 } [(yR rb r db sb x25), s26, (yo b2 #[(yi 0), (yi 2), vd] 53), ss, R] := Has.op2 (hH24.front 1 rfl)
 refine Rest.phaseA (fun w_ => Has E w_ [(yR rb r db sb x25)]) 0 18 18 rfl (by decide) (by kernel_rfl) (zn 0 rfl (by kernel_rfl) (fun w_ h_ => zb (yp rb) rfl ⟨rfl, rfl⟩) (zn 1 rfl (by kernel_rfl) (fun w_ h_ => zl rfl ⟨rfl, rfl⟩) (zn 2 rfl (by kernel_rfl) (fun w_ h_ => zg (k := 5) (fun _ => by kernel_rfl) rfl ⟨rfl, rfl⟩) (zn 3 rfl (by kernel_rfl) (fun w_ h_ => zj (v := (yi r.room)) Tryz.underlying3 rfl rfl h_ (zh 0 rfl) (CellsAt.one rfl) ⟨rfl, rfl⟩) (zn 4 rfl (by kernel_rfl) (fun w_ h_ => zb (yp rb) rfl ⟨rfl, rfl⟩) (zn 5 rfl (by kernel_rfl) (fun w_ h_ => zl rfl ⟨rfl, rfl⟩) (zn 6 rfl (by kernel_rfl) (fun w_ h_ => zg (k := 7) (fun _ => by kernel_rfl) rfl ⟨rfl, rfl⟩) (zn 7 rfl (by kernel_rfl) (fun w_ h_ => zj (v := (yi r.tail)) Tryz.underlying3 rfl rfl h_ (zh 0 rfl) (CellsAt.one rfl) ⟨rfl, rfl⟩) (zn 8 rfl (by kernel_rfl) (fun w_ h_ => zb (yp rb) rfl ⟨rfl, rfl⟩) (zn 9 rfl (by kernel_rfl) (fun w_ h_ => zl rfl ⟨rfl, rfl⟩) (zn 10 rfl (by kernel_rfl) (fun w_ h_ => zg (k := 6) (fun _ => by kernel_rfl) rfl ⟨rfl, rfl⟩) (zn 11 rfl (by kernel_rfl) (fun w_ h_ => zj (v := (yi r.start)) Tryz.underlying3 rfl rfl h_ (zh 0 rfl) (CellsAt.one rfl) ⟨rfl, rfl⟩) (zn 12 rfl (by kernel_rfl) (fun w_ h_ => o_sub (a := r.tail) (b := r.start) rfl rfl (w64 (by omega) (by omega)) ⟨rfl, rfl⟩) (zn 13 rfl (by kernel_rfl) (fun w_ h_ => o_sub (a := r.room) (b := r.tail - r.start) rfl rfl (w64 (by omega) (by omega)) ⟨rfl, rfl⟩) ?_))))))))))))))
 refine zn 14 rfl (by kernel_rfl) (fun w_ h_ => zb (yp rb) rfl ⟨rfl, rfl⟩) (zn 15 rfl (by kernel_rfl) (fun w_ h_ => zl rfl ⟨rfl, rfl⟩) (zn 16 rfl (by kernel_rfl) (fun w_ h_ => zg (k := 4) (fun _ => by kernel_rfl) rfl ⟨rfl, rfl⟩) (zn 17 rfl (by kernel_rfl) (fun w_ h_ => zj (v := (yi r.reserved)) Tryz.underlying3 rfl rfl h_ (zh 0 rfl) (CellsAt.one rfl) ⟨rfl, rfl⟩) ?_)))
 have hH29 := hH28.first 1 rfl
 refine zM (by kernel_rfl) hH29 (zO 18 rfl (by kernel_rfl) (o_sub (a := r.room - (r.tail - r.start)) (b := r.reserved) rfl rfl (w64 (by omega) (by omega)) (zO 19 rfl (by kernel_rfl) (zc (yi ((r.room - (r.tail - r.start)) - r.reserved)) rfl (Rest.done (by kernel_rfl) (ze (hK23 _ _ (yq fun K30 hK30 => (yq fun K31 hK31 => (zd (za (zg (k := 0) (fun _ => by kernel_rfl) rfl (za (zj (v := (yi 0)) Tryz.underlying3 rfl rfl hH28 (zh 2 rfl) (CellsAt.one rfl) (za (yc (a := 0) (b := 1) rfl rfl (zf (ze (hK31 _ _ (zK rfl rfl (wp_skip ?_)))))))))))))))))))))
 refine ze (hK30 _ _ (yq fun K32 hK32 => (wp_block (yq fun K33 hK33 => (zd (za (zg (k := 1) (fun _ => by kernel_rfl) rfl (za (zj (v := (yi 2)) Tryz.underlying3 rfl rfl hH28 (zh 2 rfl) (CellsAt.one rfl) (za (zL (a := 2) (b := 1) rfl rfl (za (zb (.bool false) rfl (zo 73 rfl rfl (zb (S ([x].flatten)) rfl (zo 73 rfl rfl (z8 Tryz.underlying9 rfl (zo 73 rfl rfl (o_gtr (a := (([x].flatten).length : Int)) (b := 200) rfl rfl (za (zm (u := (.bool (decide (200 < (([x].flatten).length : Int))))) rfl rfl (za (zc (.bool (decide (200 < (([x].flatten).length : Int)))) rfl (zf ?_))))))))))))))))))))))))
 refine ze (hK33 _ _ (zt rfl (fun h34 => ?_) (fun h34 => ?_)))
 ·
  refine zd (za (zc (yi 1) rfl (zf (zC (ze (hK32 _ _ (yq fun K35 hK35 => (yq fun K36 hK36 => (zd (za (zg (k := 0) (fun _ => by kernel_rfl) rfl (za (zj (v := (yi 0)) Tryz.underlying3 rfl rfl hH28 (zh 2 rfl) (CellsAt.one rfl) (za (yc (a := 0) (b := 0) rfl rfl (zf (ze (hK36 _ _ (zP rfl rfl (Rest.region mixed (by kernel_rfl) ?_))))))))))))))))))))
  have hH37 : Has E { { w21 with drawn := w21.drawn + 1 } with drawn := { w21 with drawn := w21.drawn + 1 }.drawn + 1 } [(yR rb r db sb x25), s26, (yo b2 #[(yi 0), (yi 2), vd] 53), ss, R] := Has0.drew hH28 _
  refine Rest.phaseA (fun w_ => Has E w_ [(yR rb r db sb x25), (yo b2 #[(yi 0), (yi 2), vd] 53)]) 0 7 7 rfl (by decide) (by kernel_rfl) (zn 0 rfl (by kernel_rfl) (fun w_ h_ => zb (yp rb) rfl ⟨rfl, rfl⟩) (zn 1 rfl (by kernel_rfl) (fun w_ h_ => zl rfl ⟨rfl, rfl⟩) (zn 2 rfl (by kernel_rfl) (fun w_ h_ => zg (k := 1) (fun _ => by kernel_rfl) rfl ⟨rfl, rfl⟩) (zn 3 rfl (by kernel_rfl) (fun w_ h_ => zj (v := (yp sb)) Tryz.underlying34 rfl rfl h_ (zh 0 rfl) (CellsAt.one rfl) ⟨rfl, rfl⟩) (zn 4 rfl (by kernel_rfl) (fun w_ h_ => zb (yi ((lastR r) + 2)) rfl ⟨rfl, rfl⟩) (zn 5 rfl (by kernel_rfl) (fun w_ h_ => zg (k := 2) (fun _ => by kernel_rfl) rfl ⟨rfl, rfl⟩) (zn 6 rfl (by kernel_rfl) (fun w_ h_ => zj (v := vd) Tryz.underlying46 rfl rfl h_ (zh 1 rfl) (CellsAt.one rfl) ⟨rfl, rfl⟩) ?_)))))))
  have hH38 := ((hH37.front 2 rfl).front 1 rfl).first 2 rfl
  refine zM (by kernel_rfl) hH38 (zO 7 rfl (by kernel_rfl) (zk (vs := #[(yp sb), (yi ((lastR r) + 2)), vd]) ca30 rfl (args3 rfl rfl rfl) (sappend_c (db := db) (ab := ab) (v := v) (g := (lastR r) + 2) (ds := [x]) (n := n) (hH37.front 3 rfl).all1 hs (hvd.mono (zh 3 rfl)) (h_ab.mono (zh 3 rfl)) hok (by simp) (by omega)) ?_))
  rintro _ w43 ⟨sg39, rfl, hd40, hX41⟩
  refine ⟨_, rfl, ?_⟩
  have hH42 := hX41.of_all1
  refine zO 8 rfl (by kernel_rfl) (zc (yi (apE n v ((lastR r) + 2) [x].flatten)) rfl (Rest.done (by kernel_rfl) (ze (hK35 _ _ (yq fun K44 hK44 => (zd (za (zb (yi 1) rfl (za (yc (a := 1) (b := 0) rfl rfl (zf (ze (hK44 _ _ (zK rfl rfl (wp_skip (zC (ze (hK12 _ _ (yq fun K45 hK45 => (zd ?_))))))))))))))))))))
  refine za (zb (yi (apE n v ((lastR r) + 2) [x].flatten)) rfl (za (zb (yi 1) rfl (za (yc (a := (apE n v ((lastR r) + 2) [x].flatten)) (b := 1) rfl rfl (za (zc (.bool (decide ((apE n v ((lastR r) + 2) [x].flatten) = 1))) rfl (za (zc (.bool false) rfl (zf (ze (hK45 _ _ (wp_ret (ya Tryz.results21  (v := (.bool (decide ((apE n v ((lastR r) + 2) [x].flatten) = 1)))) rfl (x := (.bool false)) rfl ?_))))))))))))))
  have hH46 := Has.cl2 ((hH42.front 2 rfl).front 2 rfl)
  have hd47 : RunAt db sb rb ((yR rb r db sb x25) ++ s26) r := RunAt.mk (v := r) f27
  have hH48 := (((hH46.front 3 rfl).front 2 rfl).front 2 rfl).first 3 rfl
  have hA_ : (apS n v (lastV v + 2) ([x] : List Bs).flatten) = v := ap_long hr0_ (by omega)
  rw [hw1_] at hd40
  refine ⟨_, _, _, rfl, ?_, hd40, hH48⟩
  rw [hA_]
  subst hrv
  exact hd47
 ·
  refine yq fun K49 hK49 => (zd (za (zb (yi (25 + (([x].flatten).length : Int))) rfl (za (zb (yi ((r.room - (r.tail - r.start)) - r.reserved)) rfl (za (o_gtr (a := 25 + (([x].flatten).length : Int)) (b := (r.room - (r.tail - r.start)) - r.reserved) rfl rfl (za (zc (.bool (decide ((r.room - (r.tail - r.start)) - r.reserved < 25 + (([x].flatten).length : Int)))) rfl (zf (ze (hK49 _ _ (zt rfl (fun h50 => ?_) (fun h50 => ?_))))))))))))))
  ·
   refine zd (za (zc (yi 5) rfl (zf (zC (ze (hK32 _ _ (yq fun K51 hK51 => (yq fun K52 hK52 => (zd (za (zg (k := 0) (fun _ => by kernel_rfl) rfl (za (zj (v := (yi 0)) Tryz.underlying3 rfl rfl hH28 (zh 2 rfl) (CellsAt.one rfl) (za (yc (a := 0) (b := 0) rfl rfl (zf (ze (hK52 _ _ (zP rfl rfl (Rest.region mixed (by kernel_rfl) ?_))))))))))))))))))))
   have hH53 : Has E { { w21 with drawn := w21.drawn + 1 } with drawn := { w21 with drawn := w21.drawn + 1 }.drawn + 1 } [(yR rb r db sb x25), s26, (yo b2 #[(yi 0), (yi 2), vd] 53), ss, R] := Has0.drew hH28 _
   refine Rest.phaseA (fun w_ => Has E w_ [(yR rb r db sb x25), (yo b2 #[(yi 0), (yi 2), vd] 53)]) 0 7 7 rfl (by decide) (by kernel_rfl) (zn 0 rfl (by kernel_rfl) (fun w_ h_ => zb (yp rb) rfl ⟨rfl, rfl⟩) (zn 1 rfl (by kernel_rfl) (fun w_ h_ => zl rfl ⟨rfl, rfl⟩) (zn 2 rfl (by kernel_rfl) (fun w_ h_ => zg (k := 1) (fun _ => by kernel_rfl) rfl ⟨rfl, rfl⟩) (zn 3 rfl (by kernel_rfl) (fun w_ h_ => zj (v := (yp sb)) Tryz.underlying34 rfl rfl h_ (zh 0 rfl) (CellsAt.one rfl) ⟨rfl, rfl⟩) (zn 4 rfl (by kernel_rfl) (fun w_ h_ => zb (yi ((lastR r) + 2)) rfl ⟨rfl, rfl⟩) (zn 5 rfl (by kernel_rfl) (fun w_ h_ => zg (k := 2) (fun _ => by kernel_rfl) rfl ⟨rfl, rfl⟩) (zn 6 rfl (by kernel_rfl) (fun w_ h_ => zj (v := vd) Tryz.underlying46 rfl rfl h_ (zh 1 rfl) (CellsAt.one rfl) ⟨rfl, rfl⟩) ?_)))))))
   have hH54 := ((hH53.front 2 rfl).front 1 rfl).first 2 rfl
   refine zM (by kernel_rfl) hH54 (zO 7 rfl (by kernel_rfl) (zk (vs := #[(yp sb), (yi ((lastR r) + 2)), vd]) ca30 rfl (args3 rfl rfl rfl) (sappend_c (db := db) (ab := ab) (v := v) (g := (lastR r) + 2) (ds := [x]) (n := n) (hH53.front 3 rfl).all1 hs (hvd.mono (zh 3 rfl)) (h_ab.mono (zh 3 rfl)) hok (by simp) (by omega)) ?_))
   rintro _ w59 ⟨sg55, rfl, hd56, hX57⟩
   refine ⟨_, rfl, ?_⟩
   have hH58 := hX57.of_all1
   refine zO 8 rfl (by kernel_rfl) (zc (yi (apE n v ((lastR r) + 2) [x].flatten)) rfl (Rest.done (by kernel_rfl) (ze (hK51 _ _ (yq fun K60 hK60 => (zd (za (zb (yi 5) rfl (za (yc (a := 5) (b := 0) rfl rfl (zf (ze (hK60 _ _ (zK rfl rfl (wp_skip (zC (ze (hK12 _ _ (yq fun K61 hK61 => (zd ?_))))))))))))))))))))
   refine za (zb (yi (apE n v ((lastR r) + 2) [x].flatten)) rfl (za (zb (yi 5) rfl (za (yc (a := (apE n v ((lastR r) + 2) [x].flatten)) (b := 5) rfl rfl (za (zc (.bool (decide ((apE n v ((lastR r) + 2) [x].flatten) = 5))) rfl (za (zc (.bool false) rfl (zf (ze (hK61 _ _ (wp_ret (ya Tryz.results21  (v := (.bool (decide ((apE n v ((lastR r) + 2) [x].flatten) = 5)))) rfl (x := (.bool false)) rfl ?_))))))))))))))
   have hH62 := Has.cl2 ((hH58.front 2 rfl).front 2 rfl)
   have hd63 : RunAt db sb rb ((yR rb r db sb x25) ++ s26) r := RunAt.mk (v := r) f27
   have hH64 := (((hH62.front 3 rfl).front 2 rfl).front 2 rfl).first 3 rfl
   have hA_ : (apS n v (lastV v + 2) ([x] : List Bs).flatten) = v := ap_full (by omega)
   rw [hw1_] at hd56
   refine ⟨_, _, _, rfl, ?_, hd56, hH64⟩
   rw [hA_]
   subst hrv
   exact hd63
  ·
   refine wp_skip (zC (ze (hK32 _ _ (yq fun K65 hK65 => (yq fun K66 hK66 => (zd (za (zg (k := 0) (fun _ => by kernel_rfl) rfl (za (zj (v := (yi 0)) Tryz.underlying3 rfl rfl hH28 (zh 2 rfl) (CellsAt.one rfl) (za (yc (a := 0) (b := 0) rfl rfl (zf (ze (hK66 _ _ (zP rfl rfl (Rest.region mixed (by kernel_rfl) ?_)))))))))))))))))
   have hH67 : Has E { { w21 with drawn := w21.drawn + 1 } with drawn := { w21 with drawn := w21.drawn + 1 }.drawn + 1 } [(yR rb r db sb x25), s26, (yo b2 #[(yi 0), (yi 2), vd] 53), ss, R] := Has0.drew hH28 _
   refine Rest.phaseA (fun w_ => Has E w_ [(yR rb r db sb x25), (yo b2 #[(yi 0), (yi 2), vd] 53)]) 0 7 7 rfl (by decide) (by kernel_rfl) (zn 0 rfl (by kernel_rfl) (fun w_ h_ => zb (yp rb) rfl ⟨rfl, rfl⟩) (zn 1 rfl (by kernel_rfl) (fun w_ h_ => zl rfl ⟨rfl, rfl⟩) (zn 2 rfl (by kernel_rfl) (fun w_ h_ => zg (k := 1) (fun _ => by kernel_rfl) rfl ⟨rfl, rfl⟩) (zn 3 rfl (by kernel_rfl) (fun w_ h_ => zj (v := (yp sb)) Tryz.underlying34 rfl rfl h_ (zh 0 rfl) (CellsAt.one rfl) ⟨rfl, rfl⟩) (zn 4 rfl (by kernel_rfl) (fun w_ h_ => zb (yi ((lastR r) + 2)) rfl ⟨rfl, rfl⟩) (zn 5 rfl (by kernel_rfl) (fun w_ h_ => zg (k := 2) (fun _ => by kernel_rfl) rfl ⟨rfl, rfl⟩) (zn 6 rfl (by kernel_rfl) (fun w_ h_ => zj (v := vd) Tryz.underlying46 rfl rfl h_ (zh 1 rfl) (CellsAt.one rfl) ⟨rfl, rfl⟩) ?_)))))))
   have hH68 := ((hH67.front 2 rfl).front 1 rfl).first 2 rfl
   refine zM (by kernel_rfl) hH68 (zO 7 rfl (by kernel_rfl) (zk (vs := #[(yp sb), (yi ((lastR r) + 2)), vd]) ca30 rfl (args3 rfl rfl rfl) (sappend_c (db := db) (ab := ab) (v := v) (g := (lastR r) + 2) (ds := [x]) (n := n) (hH67.front 3 rfl).all1 hs (hvd.mono (zh 3 rfl)) (h_ab.mono (zh 3 rfl)) hok (by simp) (by omega)) ?_))
   rintro _ w73 ⟨sg69, rfl, hd70, hX71⟩
   refine ⟨_, rfl, ?_⟩
   have hH72 : Has E w73 [sg69, (yR rb r db sb x25), s26, (yo b2 #[(yi 0), (yi 2), vd] 53), R] := hX71.of_all1
   refine zO 8 rfl (by kernel_rfl) (zc (yi (apE n v ((lastR r) + 2) [x].flatten)) rfl (Rest.done (by kernel_rfl) (ze (hK65 _ _ (yq fun K74 hK74 => (zd (za (zb (yi 0) rfl (za (yc (a := 0) (b := 0) rfl rfl (zf (ze (hK74 _ _ (zP rfl rfl (yq fun K75 hK75 => (yq fun K76 hK76 => (zd (za (zg (k := 0) (fun _ => by kernel_rfl) rfl (za (zj (v := (yi 0)) Tryz.underlying3 rfl rfl hH72 (zh 3 rfl) (CellsAt.one rfl) ?_)))))))))))))))))))))
   refine za (yc (a := 0) (b := 1) rfl rfl (zf (ze (hK76 _ _ (zK rfl rfl (wp_skip (ze (hK75 _ _ (yq fun K77 hK77 => (Rest.region mixed (by kernel_rfl) ?_))))))))))
   have hH78 : Has E { w73 with drawn := w73.drawn + 1 } [sg69, (yR rb r db sb x25), s26, (yo b2 #[(yi 0), (yi 2), vd] 53), R] := Has0.drew hH72 _
   refine Rest.phaseA (fun w_ => Has E w_ [(yR rb r db sb x25)]) 0 14 14 rfl (by decide) (by kernel_rfl) (zn 0 rfl (by kernel_rfl) (fun w_ h_ => zb (yp rb) rfl ⟨rfl, rfl⟩) (zn 1 rfl (by kernel_rfl) (fun w_ h_ => zb (yp rb) rfl ⟨rfl, rfl⟩) (zn 2 rfl (by kernel_rfl) (fun w_ h_ => zl rfl ⟨rfl, rfl⟩) (zn 3 rfl (by kernel_rfl) (fun w_ h_ => zg (k := 2) (fun _ => by kernel_rfl) rfl ⟨rfl, rfl⟩) (zn 4 rfl (by kernel_rfl) (fun w_ h_ => zj (v := x25) Tryz.underlying37 rfl rfl h_ (zh 0 rfl) (CellsAt.one rfl) ⟨rfl, rfl⟩) (zn 5 rfl (by kernel_rfl) (fun w_ h_ => zb (yi ((lastR r) + 2)) rfl ⟨rfl, rfl⟩) (zn 6 rfl (by kernel_rfl) (fun w_ h_ => zb (yp rb) rfl ⟨rfl, rfl⟩) (zn 7 rfl (by kernel_rfl) (fun w_ h_ => zl rfl ⟨rfl, rfl⟩) (zn 8 rfl (by kernel_rfl) (fun w_ h_ => zg (k := 7) (fun _ => by kernel_rfl) rfl ⟨rfl, rfl⟩) (zn 9 rfl (by kernel_rfl) (fun w_ h_ => zj (v := (yi r.tail)) Tryz.underlying3 rfl rfl h_ (zh 0 rfl) (CellsAt.one rfl) ⟨rfl, rfl⟩) (zn 10 rfl (by kernel_rfl) (fun w_ h_ => zb (S ([x].flatten)) rfl ⟨rfl, rfl⟩) (zn 11 rfl (by kernel_rfl) (fun w_ h_ => zJ (v := (.agg #[(yi ((lastR r) + 2)), (yi r.tail), (S ([x].flatten))])) (fun _ => by kernel_rfl) ⟨rfl, rfl⟩) ?_))))))))))))
   have hH79 := (hH78.front 1 rfl).first 1 rfl
   refine a_w 12 rfl (by kernel_rfl) hH79 (zw (ps := #[(0, (.agg #[(yi ((lastR r) + 2)), (yi r.tail), (S ([x].flatten))]))]) (cells := #[(yi ((lastR r) + 2)), (yi r.tail), (S ([x].flatten))]) Tryz.underlying37 ti42 (by decide) (yb rfl) (by kernel_rfl) hH78 fun b80 w81 hH82 => ?_)
   have hH83 := (hH82.front 2 rfl).first 1 rfl
   refine a_w 13 rfl (by kernel_rfl) hH83 (o_append Tryz.underlying37 ti42 rfl (by decide) rfl f27 rfl (sl_litF (f := enC) (l := [(LEnt.mk ((lastR r) + 2) r.tail ([x].flatten))]) enC_len rfl rfl (by simp)) (hH82.front 3 rfl) (zh 0 rfl) (one_enC _) (by simp only [List.length_cons, List.length_nil]; omega) (by simp only [List.length_cons, List.length_nil]; omega) fun v84 s85 w87 ho86 hH88 => ?_)
   have ho86 : Own 42 3 v84 (r.l ++ [(LEnt.mk ((lastR r) + 2) r.tail ([x].flatten))]).length ((r.l ++ [(LEnt.mk ((lastR r) + 2) r.tail ([x].flatten))]).flatMap enC) s85 := ho86.appF
   have hH89 := (hH88.front 3 rfl).first 1 rfl
   refine zM (by kernel_rfl) hH89 (zO 14 rfl (by kernel_rfl) (zl rfl (zO 15 rfl (by kernel_rfl) (zg (k := 2) (fun _ => by kernel_rfl) rfl (r_eff 16 rfl (by kernel_rfl) (zH (c' := #[(yp db), (yp sb), v84, (yi r.flushed), (yi r.reserved), (yi r.room), (yi r.start), (yi r.tail), (yi r.mark)]) ti37 rfl rfl ho86.one (by simp) rfl (hH88.front 3 rfl) fun w90 hH91 => (Rest.done (by kernel_rfl) (ze (hK77 _ _ (zd (za (zb (yp rb) rfl (za (zb (yp rb) rfl (za (zl rfl (za (zg (k := 7) (fun _ => by kernel_rfl) rfl (za (zj (v := (yi r.tail)) Tryz.underlying3 rfl rfl hH91 (zh 0 rfl) (CellsAt.one rfl) (za (zb (yi (25 + (([x].flatten).length : Int))) rfl (za (zD (a := r.tail) (b := 25 + (([x].flatten).length : Int)) rfl rfl (w64 (by omega) (by omega)) (za (zl rfl ?_))))))))))))))))))))))))))
   refine za (zg (k := 7) (fun _ => by kernel_rfl) rfl (zB (zH (c' := #[(yp db), (yp sb), v84, (yi r.flushed), (yi r.reserved), (yi r.room), (yi r.start), (yi (r.tail + (25 + (([x].flatten).length : Int)))), (yi r.mark)]) ti3 rfl rfl rfl (by simp) rfl (hH91.front 0 rfl) fun w92 hH93 => (zf (zC (ze (hK12 _ _ (yq fun K94 hK94 => (zd (za (zb (yi (apE n v ((lastR r) + 2) [x].flatten)) rfl (za (zb (yi 0) rfl (za (yc (a := (apE n v ((lastR r) + 2) [x].flatten)) (b := 0) rfl rfl (za (zc (.bool (decide ((apE n v ((lastR r) + 2) [x].flatten) = 0))) rfl (za (zc (.bool false) rfl (zf (ze (hK94 _ _ (wp_ret ?_)))))))))))))))))))))))
   refine ya Tryz.results21  (v := (.bool (decide ((apE n v ((lastR r) + 2) [x].flatten) = 0)))) rfl (x := (.bool false)) rfl ?_
   have hH95 := Has.cl2 ((hH93.front 1 rfl).front 1 rfl)
   have hd96 : RunAt db sb rb ((yo rb #[(yp db), (yp sb), v84, (yi r.flushed), (yi r.reserved), (yi r.room), (yi r.start), (yi (r.tail + (25 + (([x].flatten).length : Int)))), (yi r.mark)] 55) ++ s85) (⟨r.l ++ [(LEnt.mk ((lastR r) + 2) r.tail ([x].flatten))], r.flushed, r.reserved, r.room, r.start, r.tail + (25 + (([x].flatten).length : Int)), r.mark⟩ : RunS) := RunAt.mk (v := (⟨r.l ++ [(LEnt.mk ((lastR r) + 2) r.tail ([x].flatten))], r.flushed, r.reserved, r.room, r.start, r.tail + (25 + (([x].flatten).length : Int)), r.mark⟩ : RunS)) ho86
   have hH97 := (((hH95.front 4 rfl).front 3 rfl).front 2 rfl).first 3 rfl
   have hA_ : (apS n v (lastV v + 2) ([x] : List Bs).flatten) = layS v (lastV v + 2) ([x] : List Bs).flatten := ap_lay hr0_ (by omega) (by omega) (by omega) (by omega)
   rw [hw1_] at hd70
   refine ⟨_, _, _, rfl, ?_, hd70, hH97⟩
   rw [hA_]
   subst hrv
   exact hd96
end Go.Q
namespace Go.Q
open Go.Proofs
set_option linter.unusedVariables false
set_option maxRecDepth 100000
attribute [local irreducible] wpList OK Code.wp
theorem StreamCuts_c {E w : World} {R : List Hp} (hH : Has E w [R]) (hg : CellsAt R 0 0 nibV) {nn aa at_ : Int} (hnn : 0 ≤ nn ∧ nn ≤ 255) (haa : 0 ≤ aa ∧ aa ≤ 255) {v1 v2 v3 : Value} {first second : List Bs} {fl : Bool} {keep : List Int} (hf1 : Sl R 1 v1 first.length (first.map sV)) (hfb : ∀ t ∈ first, t.length ≤ 140737488355328) (hs2 : Sl R 1 v2 second.length (second.map sV)) (hsb : ∀ t ∈ second, t.length ≤ 140737488355328) (hkp : Ints R v3 keep) :
  Calls Tryz.prog 4 #[(.int .u8 nn), v1, (.int .u8 aa), (yi at_), v2, (.bool fl), v3] w fun e w' => e = .returned (.bool true) ∧ Has E w' [R] := by
 obtain ⟨kk, hkk0⟩ : ∃ kk : Nat, (3 + nn % 40 : Int) = (kk : Int) := ⟨(3 + nn % 40).toNat, by omega⟩
 have hkk : 3 ≤ kk ∧ kk ≤ 42 := by omega
 obtain ⟨hz1_, hz2_, hz3_, hz4_, hz5_, hz6_, hz7_⟩ := c8_ok hkk
 have hn1_ := hf1.le
 have hn2_ := hs2.le
 have hn3_ := hkp.le
 refine zs (args := [(.int .u8 nn), v1, (.int .u8 aa), (yi at_), v2, (.bool fl), v3]) Tryz.func4 rfl Tryz.ntmps4 (by simp) (yq fun K1 hK1 => (zd (za (zc (.bool false) rfl (zf (ze (hK1 _ _ (yq fun K2 hK2 => (yq fun K3 hK3 => (zd (za (zb v1 rfl (za (zQ Tryz.underlying46 rfl hf1 (za (o_gtr (a := ((first.length : Nat) : Int)) (b := 20) rfl rfl (za (zb (.bool (decide (20 < ((first.length : Nat) : Int)))) rfl ?_))))))))))))))))))
 by_cases h4 : 20 < ((first.length : Nat) : Int)
 ·
  refine zi (b' := true) 30 rfl (cT h4) rfl (zi (b' := true) 30 rfl (cT h4) rfl (zi (b' := true) 30 rfl (cT h4) rfl (za (zq (u := (.bool true)) ((rfl : _ = _).trans (cT h4)) rfl (za (zb (.bool true) rfl (zi (b' := true) 35 rfl rfl rfl (zi (b' := true) 35 rfl rfl rfl (zi (b' := true) 35 rfl rfl rfl (za (zq (u := (.bool true)) rfl rfl (za (zb (.bool true) rfl (zi (b' := true) 40 rfl rfl rfl (zi (b' := true) 40 rfl rfl rfl (za (zq (u := (.bool true)) rfl rfl (zf (ze (hK3 _ _ ?_))))))))))))))))))))
  refine zP rfl rfl (yq fun K5 hK5 => (zd (za (zk (vs := #[]) ca11 rfl (args0) (awake8_c hH.all (hg.mono (zh 0 rfl))) ?_))))
  rintro _ w8 ⟨rfl, hX6⟩
  refine ⟨_, rfl, ?_⟩
  have hH7 := hX6.of_all
  refine za (zc (.bool true) rfl (zf (ze (hK5 _ _ (wp_ret (zx (zr Tryz.results4  (v := (.bool true)) rfl ?_)))))))
  exact ⟨by first | rfl | (rw [decide_eq_true rfl]), hH7⟩
 ·
  refine zo 30 rfl (cF h4) (zb v2 rfl (zo 30 rfl (cF h4) (zQ Tryz.underlying46 rfl hs2 (zo 30 rfl (cF h4) (o_gtr (a := ((second.length : Nat) : Int)) (b := 20) rfl rfl (za (zm (u := (.bool (decide (20 < ((second.length : Nat) : Int))))) ((rfl : _ = _).trans (cF h4)) rfl (za (zb (.bool (decide (20 < ((second.length : Nat) : Int)))) rfl ?_)))))))))
  by_cases h9 : 20 < ((second.length : Nat) : Int)
  ·
   refine zi (b' := true) 35 rfl (cT h9) rfl (zi (b' := true) 35 rfl (cT h9) rfl (zi (b' := true) 35 rfl (cT h9) rfl (za (zq (u := (.bool true)) ((rfl : _ = _).trans (cT h9)) rfl (za (zb (.bool true) rfl (zi (b' := true) 40 rfl rfl rfl (zi (b' := true) 40 rfl rfl rfl (za (zq (u := (.bool true)) rfl rfl (zf (ze (hK3 _ _ (zP rfl rfl (yq fun K10 hK10 => (zd (za (zk (vs := #[]) ca11 rfl (args0) (awake8_c hH.all (hg.mono (zh 0 rfl))) ?_))))))))))))))))))
   rintro _ w13 ⟨rfl, hX11⟩
   refine ⟨_, rfl, ?_⟩
   have hH12 := hX11.of_all
   refine za (zc (.bool true) rfl (zf (ze (hK10 _ _ (wp_ret (zx (zr Tryz.results4  (v := (.bool true)) rfl ?_)))))))
   exact ⟨by first | rfl | (rw [decide_eq_true rfl]), hH12⟩
  ·
   refine zo 35 rfl (cF h9) (zb v3 rfl (zo 35 rfl (cF h9) (zQ Tryz.underlying47 rfl hkp (zo 35 rfl (cF h9) (o_gtr (a := ((keep.length : Nat) : Int)) (b := 60) rfl rfl (za (zm (u := (.bool (decide (60 < ((keep.length : Nat) : Int))))) ((rfl : _ = _).trans (cF h9)) rfl (za (zb (.bool (decide (60 < ((keep.length : Nat) : Int)))) rfl ?_)))))))))
   by_cases h14 : 60 < ((keep.length : Nat) : Int)
   ·
    refine zi (b' := true) 40 rfl (cT h14) rfl (zi (b' := true) 40 rfl (cT h14) rfl (za (zq (u := (.bool true)) ((rfl : _ = _).trans (cT h14)) rfl (zf (ze (hK3 _ _ (zP rfl rfl (yq fun K15 hK15 => (zd (za (zk (vs := #[]) ca11 rfl (args0) (awake8_c hH.all (hg.mono (zh 0 rfl))) ?_)))))))))))
    rintro _ w18 ⟨rfl, hX16⟩
    refine ⟨_, rfl, ?_⟩
    have hH17 := hX16.of_all
    refine za (zc (.bool true) rfl (zf (ze (hK15 _ _ (wp_ret (zx (zr Tryz.results4  (v := (.bool true)) rfl ?_)))))))
    exact ⟨by first | rfl | (rw [decide_eq_true rfl]), hH17⟩
   ·
    refine zo 40 rfl (cF h14) (zk (vs := #[]) ca11 rfl (args0) (awake8_c hH.all (hg.mono (zh 0 rfl))) ?_)
    rintro _ w21 ⟨rfl, hX19⟩
    refine ⟨_, rfl, ?_⟩
    have hH20 := hX19.of_all
    refine zo 40 rfl (cF h14) (o_not rfl (za (zm (u := (.bool false)) ((rfl : _ = _).trans (cF h14)) rfl (zf (ze (hK3 _ _ (zK rfl rfl (wp_skip (ze (hK2 _ _ (yq fun K22 hK22 => (zd (za (zb (.int .u8 nn) rfl (za (o_rem (a := nn) (b := 40) (c := nn % 40) rfl rfl (by omega) ((Int.tmod_eq_emod_of_nonneg (by first | exact Int.natCast_nonneg _ | omega))) (za (o_conv (c := (nn % 40)) Tryz.underlying5 Tryz.underlying3 rfl (w64 (by omega) (by omega)) (za (zD (a := 5) (b := nn % 40) rfl rfl (w64 (by omega) (by omega)) (za (zk (vs := #[(yi (5 + (nn % 40)))]) ca20 rfl (zI rfl) (begin8_c hH20.all (hg.mono (zh 0 rfl)) hkk (x := 5 + (nn % 40)) (by omega)) ?_))))))))))))))))))))))
    rintro _ w36 ⟨rb23, sr24, sb25, ss26, ab27, db28, sg29, pb30, rfl, hr31, hs32, hd33, hX34⟩
    refine ⟨_, rfl, ?_⟩
    have hH35 := hX34.of_all5
    refine za (zc (yp rb23) rfl (zf (ze (hK22 _ _ (yq fun K37 hK37 => (yq fun K38 hK38 => (zd (za (zb (yp rb23) rfl (za (o_pnil (p := some _) Tryz.underlying48 rfl rfl (zf (ze (hK38 _ _ (zK rfl rfl (wp_skip (ze (hK37 _ _ (yq fun K39 hK39 => (yq fun K40 hK40 => ?_))))))))))))))))))))
    refine zd (za (zc (yi 0) rfl (zf (ze (hK40 _ _ (wp_block ?_))))))
    let I42 : Nat → (Nat → Value) → World → Prop := fun n__ r__ w__ => ∃ (i : Nat) (v : StmS) (sr1 : List Hp) (ss1 : List Hp), n__ = first.length - i ∧ Has E w__ [sr1, ss1, (yo ab27 #[(yp db28), (yi 2), (yi (kk : Int))] 265), sg29, (yP pb30 (c8d kk).p), R] ∧ (i ≤ first.length) ∧ (RunAt db28 sb25 rb23 sr1 (runOf (kk : Int) v)) ∧ (StmAt db28 ab27 sb25 ss1 v) ∧ (C1 (kk : Int) v i) ∧ r__ 0 = (.int .u8 nn) ∧ r__ 1 = v1 ∧ r__ 2 = (.int .u8 aa) ∧ r__ 3 = (yi at_) ∧ r__ 4 = v2 ∧ r__ 5 = (.bool fl) ∧ r__ 6 = v3 ∧ r__ 14 = (.bool false) ∧ r__ 15 = (yp rb23) ∧ r__ 16 = (yi (i : Int)) ∧ r__ 43 = (.bool false) ∧ r__ 51 = (.bool false)
    refine zX I42 _ ⟨0, (c8v kk), sr24, ss26, rfl, hH35, Nat.zero_le _, hr31, hs32, C1.start hkk, rfl, rfl, rfl, rfl, rfl, rfl, rfl, rfl, rfl, rfl, rfl, rfl⟩ ?_
    rintro n_ r45 w43 ⟨i, v, sr1, ss1, rfl, hH44, hi, hr1, hs1, hc1, e41_0, e41_1, e41_2, e41_3, e41_4, e41_5, e41_6, e41_14, e41_15, e41_16, e41_43, e41_51⟩
    have hla1_ := hc1.last
    refine yq fun K46 hK46 => (yq fun K47 hK47 => (zd (za (zb (yi (i : Int)) e41_16 (za (zb v1 e41_1 (za (zQ Tryz.underlying46 rfl hf1 (za (zL (a := (i : Int)) (b := ((first.length : Nat) : Int)) rfl rfl (zf (ze (hK47 _ _ (zt rfl (fun h48 => ?_) (fun h48 => ?_)))))))))))))))
    ·
     refine wp_skip (ze (hK46 _ _ (yq fun K49 hK49 => (wp_block (zd (za (zb (yp rb23) e41_15 (za (zb v1 e41_1 (za (zb (yi (i : Int)) e41_16 (za (zb (yi (i : Int)) e41_16 (za (zD (a := (i : Int)) (b := 1) rfl rfl (w64 (by omega) (by omega)) (za (o_sl Tryz.underlying46 ti9 rfl hf1 rfl rfl (by omega) (by omega) (by omega) fun v50 hv51 => ?_)))))))))))))))))
     have hv52 := sl_partm hv51 (by omega) (by omega)
     obtain ⟨p53, c54, rfl⟩ := Sl.form hv52
     refine za (zJ (v := (.agg #[(yi 0), (yi 2), (.slice p53 ((first.take ((i : Int) + 1).toNat).drop ((i : Int)).toNat).length c54)])) (fun _ => by kernel_rfl) ?_)
     obtain ⟨x_, hx_⟩ : ∃ x_, first[i]? = some x_ := zN (by omega)
     have hvd_ := sl_eq hv52 (slice1 (l := first) (i := i) hx_ (by omega) (by omega))
     refine za (zk (vs := #[(yp rb23), (.agg #[(yi 0), (yi 2), (.slice p53 ((first.take ((i : Int) + 1).toNat).drop ((i : Int)).toNat).length c54)])]) ca21 rfl (zF rfl rfl) (does8_c (n := (kk : Int)) (v := v) rfl ((hH44.front 1 rfl).front 1 rfl).all2 hr1 hs1 ((CellsAt.one rfl).mono (zh 0 rfl)) hc1.ok hc1.err hc1.cut (by have := hc1.last; omega) (x := x_) (hvd_.mono (zh 3 rfl)) (hfb _ (List.mem_of_getElem? hx_))) ?_)
     rintro _ w62 ⟨bo55, sr56, ss57, rfl, hr58, hs59, hX60⟩
     refine ⟨_, rfl, ?_⟩
     have hH61 := hX60.of_all2
     refine zf (zC (ze (hK49 _ _ (zd (za (zb (yi (i : Int)) e41_16 (za (zD (a := (i : Int)) (b := 1) rfl rfl (w64 (by omega) (by omega)) (za (zc (yi ((i : Int) + 1)) rfl (zf (ze ⟨first.length - (i + 1), _, rfl, ?_, ?_⟩))))))))))))
     · omega
     · exact ⟨(i + 1), (apS (kk : Int) v (lastV v + 2) ([x_] : List Bs).flatten), sr56, ss57, rfl, hH61, (by omega), (hr58), (hs59), (hc1.step _), e41_0, e41_1, e41_2, e41_3, e41_4, e41_5, e41_6, e41_14, e41_15, rfl, e41_43, e41_51⟩
    ·
     refine wp_exit (zy (zy (x_in ((ze (hK39 _ _ (yq fun K63 hK63 => (zd ?_))))))))
     have hlv_ := (last_le hc1.ok).1
     have hlr_ : lastR (⟨(runOf (kk : Int) v).l, (runOf (kk : Int) v).flushed, (runOf (kk : Int) v).reserved, (runOf (kk : Int) v).room, (runOf (kk : Int) v).start, (runOf (kk : Int) v).tail, (runOf (kk : Int) v).mark⟩ : RunS) = lastV v := rfl
     refine za (zb (yp rb23) e41_15 (za (zl rfl ?_)))
     obtain ⟨x64, s65, rfl, f66⟩ := hr1
     have hH67 : Has E w43 [(yR rb23 (runOf (kk : Int) v) db28 sb25 x64), s65, ss1, (yo ab27 #[(yp db28), (yi 2), (yi (kk : Int))] 265), sg29, (yP pb30 (c8d kk).p), R] := Has.op2 hH44
     refine za (zg (k := 0) (fun _ => by kernel_rfl) rfl (za (zj (v := (yp db28)) Tryz.underlying25 rfl rfl hH67 (zh 0 rfl) (CellsAt.one rfl) (za (zb (.int .u8 aa) e41_2 (za (o_rem (a := aa) (b := 40) (c := aa % 40) rfl rfl (by omega) ((Int.tmod_eq_emod_of_nonneg (by first | exact Int.natCast_nonneg _ | omega))) (za (o_conv (c := (aa % 40)) Tryz.underlying5 Tryz.underlying3 rfl (w64 (by omega) (by omega)) (za (zk (vs := #[(yp db28), (yi (aa % 40))]) ca22 rfl (zF rfl rfl) (dv_ar (d := (c8d kk)) ((hH67.front 5 rfl).front 5 rfl).all2 hd33 (aa % 40)) ?_)))))))))))
     rintro _ w71 ⟨rfl, hd68, hX69⟩
     refine ⟨_, rfl, ?_⟩
     have hH70 := hX69.of_all2
     refine zf (ze (hK63 _ _ (yq fun K72 hK72 => (Rest.region mixed (by kernel_rfl) ?_))))
     have hH73 : Has E { w71 with drawn := w71.drawn + 1 } [sg29, (yP pb30 ((c8d kk).ar (aa % 40)).p), (yR rb23 (runOf (kk : Int) v) db28 sb25 x64), s65, ss1, (yo ab27 #[(yp db28), (yi 2), (yi (kk : Int))] 265), R] := Has0.drew hH70 _
     refine Rest.phaseA (fun w_ => Has E w_ [(yR rb23 (runOf (kk : Int) v) db28 sb25 x64)]) 0 7 7 rfl (by decide) (by kernel_rfl) (zn 0 rfl (by kernel_rfl) (fun w_ h_ => zb (yp rb23) e41_15 ⟨rfl, rfl⟩) (zn 1 rfl (by kernel_rfl) (fun w_ h_ => zl rfl ⟨rfl, rfl⟩) (zn 2 rfl (by kernel_rfl) (fun w_ h_ => zg (k := 1) (fun _ => by kernel_rfl) rfl ⟨rfl, rfl⟩) (zn 3 rfl (by kernel_rfl) (fun w_ h_ => zj (v := (yp sb25)) Tryz.underlying34 rfl rfl h_ (zh 0 rfl) (CellsAt.one rfl) ⟨rfl, rfl⟩) (zn 4 rfl (by kernel_rfl) (fun w_ h_ => zb (yp rb23) e41_15 ⟨rfl, rfl⟩) ?_)))))
     have hH74 := (hH73.front 2 rfl).first 1 rfl
     refine a_w 5 rfl (by kernel_rfl) hH74 (zk (vs := #[(yp rb23)]) ca24 rfl (zI rfl) (rlast_c (r := (⟨(runOf (kk : Int) v).l, (runOf (kk : Int) v).flushed, (runOf (kk : Int) v).reserved, (runOf (kk : Int) v).room, (runOf (kk : Int) v).start, (runOf (kk : Int) v).tail, (runOf (kk : Int) v).mark⟩ : RunS)) (db := db28) (sb := sb25) hH73.all (RunRd.mk (v := (⟨(runOf (kk : Int) v).l, (runOf (kk : Int) v).flushed, (runOf (kk : Int) v).reserved, (runOf (kk : Int) v).room, (runOf (kk : Int) v).start, (runOf (kk : Int) v).tail, (runOf (kk : Int) v).mark⟩ : RunS)) ((CellsAt.one rfl).mono (zh 2 rfl)) (f66.sl.mono (zh 3 rfl))) (show v.l.length ≤ 1000000 by have := hc1.ok.le; omega)) ?_)
     rintro _ w77 ⟨rfl, hX75⟩
     refine ⟨_, rfl, ?_⟩
     have hH76 := hX75.of_all
     refine zn 6 rfl (by kernel_rfl) (fun w_ h_ => zD (a := (lastR (⟨(runOf (kk : Int) v).l, (runOf (kk : Int) v).flushed, (runOf (kk : Int) v).reserved, (runOf (kk : Int) v).room, (runOf (kk : Int) v).start, (runOf (kk : Int) v).tail, (runOf (kk : Int) v).mark⟩ : RunS))) (b := 1) rfl rfl (w64 (by omega) (by omega)) ⟨rfl, rfl⟩) ?_
     have hH78 := (hH76.front 2 rfl).first 1 rfl
     refine zM (by kernel_rfl) hH78 (zO 7 rfl (by kernel_rfl) (zk (vs := #[(yp sb25), (yi ((lastR (⟨(runOf (kk : Int) v).l, (runOf (kk : Int) v).flushed, (runOf (kk : Int) v).reserved, (runOf (kk : Int) v).room, (runOf (kk : Int) v).start, (runOf (kk : Int) v).tail, (runOf (kk : Int) v).mark⟩ : RunS)) + 1))]) ca23 rfl (zF rfl rfl) (sflush_c (d := ((c8d kk).ar (aa % 40))) (v := v) (n := (kk : Int)) ((((hH76.front 4 rfl).front 5 rfl).front 3 rfl).front 3 rfl).all4 hd68 hs1 (few_ar (n := aa % 40) (c8_few kk) (by omega)) (by omega) (ar_lk (c8_lk kk) _) (show (c8d kk).la.length ≤ 4096 by omega) (show Full64 (c8d kk).la from hz6_) (show (((c8d kk).la.length : Nat) : Int) = (kk : Int) + 2 by omega) hc1.ok (hg.mono (zh 2 rfl)) (mark := (lastR (⟨(runOf (kk : Int) v).l, (runOf (kk : Int) v).flushed, (runOf (kk : Int) v).reserved, (runOf (kk : Int) v).room, (runOf (kk : Int) v).start, (runOf (kk : Int) v).tail, (runOf (kk : Int) v).mark⟩ : RunS)) + 1)) ?_))
     rintro _ w85 ⟨sg79, ss81, rfl, hd80, hs82, hX83⟩
     refine ⟨_, rfl, ?_⟩
     have hH84 := hX83.of_all4
     refine Rest.done (by kernel_rfl) (ze (hK72 _ _ (yq fun K86 hK86 => (zd ?_))))
     obtain ⟨d2, d2e_⟩ : ∃ x_ : Dv, x_ = (flS (kk : Int) ((c8d kk).ar (aa % 40)) v ((lastR (⟨(runOf (kk : Int) v).l, (runOf (kk : Int) v).flushed, (runOf (kk : Int) v).reserved, (runOf (kk : Int) v).room, (runOf (kk : Int) v).start, (runOf (kk : Int) v).tail, (runOf (kk : Int) v).mark⟩ : RunS)) + 1)).2.1 := ⟨_, rfl⟩
     have hH87 : Has E w85 [sg79, (yP pb30 d2.p), (yo ab27 #[(yp db28), (yi 2), (yi (kk : Int))] 265), ss81, (yR rb23 (runOf (kk : Int) v) db28 sb25 x64), s65, R] := by rw [d2e_]; exact hH84
     have hd88 : DevAt pb30 sg79 db28 d2.la d2.lo := by rw [d2e_]; exact hd80
     have d2f_ : Few d2.p (((kk + 4) + ((kk : Int).toNat + 4))) := by rw [d2e_]; exact (few_flS (few_ar (n := aa % 40) (c8_few kk) (by omega)) (by omega) _)
     have d2k_ : LoOk d2.lo d2.la.length := by rw [d2e_]; exact (flS_lo (ar_lk (c8_lk kk) _) _)
     have hl2_ : d2.la.length = kk + 2 := by rw [d2e_, flS_len]; exact hz5_
     have hf2_ : Full64 d2.la := by rw [d2e_]; exact full_flS (d := (c8d kk).ar _) (c8_lk kk) hz6_ _
     refine za (zb (yp rb23) e41_15 (za (zl rfl (za (zg (k := 0) (fun _ => by kernel_rfl) rfl (za (zj (v := (yp db28)) Tryz.underlying25 rfl rfl hH87 (zh 4 rfl) (CellsAt.one rfl) (za (zw (ps := #[(0, (yp db28))]) (cells := #[(yp db28)]) Tryz.underlying74 ti25 (by decide) (yb rfl) (by kernel_rfl) hH87 fun b89 w90 hH91 => (za (zk (vs := #[(.slice (some ⟨b89, 0, none⟩) 1 1)]) ca25 rfl (zI rfl) (look8_c (d := d2) ((hH91.front 2 rfl).front 2 rfl).all2 hd88 (by omega) hf2_ d2k_ (by omega) (vd := (.slice (some ⟨b89, 0, none⟩) 1 1)) ((zW (f := ptC) (l := [db28]) (g := (0, 0)) (T := 25) rfl rfl (by simp)).mono (zh 0 rfl))) ?_)))))))))))
     rintro _ w109 ⟨va92, vb93, vf94, vo95, F96, O97, s98, s99, s100, s101, rfl, ho102, ho103, ho104, ho105, ho106, hX107⟩
     refine ⟨_, rfl, ?_⟩
     have hH108 := hX107.of_all6
     refine za (zU (cs := #[(.slice none 0 0), (.slice none 0 0)]) ti61 rfl hH108 fun b110 w111 hH112 => (zB (zv (vs := [va92, vb93]) (c' := #[va92, vb93]) ti61 rfl rfl rfl rfl (by intro u hu; simp only [List.mem_cons, List.not_mem_nil, or_false] at hu; rcases hu with rfl | rfl <;> first | rfl | exact ho102.one | exact ho103.one) (by simp) (by kernel_rfl) (hH112.front 0 rfl) fun w113 hH114 => (zf (ze (hK86 _ _ (yq fun K115 hK115 => (zd (za (zb (yp rb23) e41_15 (za (zl rfl (za (zg (k := 0) (fun _ => by kernel_rfl) rfl (za (zj (v := (yp db28)) Tryz.underlying25 rfl rfl hH114 (zh 10 rfl) (CellsAt.one rfl) (za (zb v3 e41_6 (za (zk (vs := #[(yp db28), v3]) ca26 rfl (zF rfl rfl) (dv_cr (d := d2) ((hH114.front 6 rfl).front 6 rfl).all2 hd88 d2k_ (keep := keep) (hkp.mono (zh 10 rfl))) ?_))))))))))))))))))))
     rintro _ w120 ⟨sg116, rfl, hd117, hX118⟩
     refine ⟨_, rfl, ?_⟩
     have hH119 := hX118.of_all2
     obtain ⟨d3, d3e_⟩ : ∃ x_ : Dv, x_ = (d2.cr keep) := ⟨_, rfl⟩
     have hH121 : Has E w120 [sg116, (yP pb30 d3.p), (yo b110 #[va92, vb93] 61), s98, s99, s100, s101, (yo b89 #[(yp db28)] 25), (yo ab27 #[(yp db28), (yi 2), (yi (kk : Int))] 265), ss81, (yR rb23 (runOf (kk : Int) v) db28 sb25 x64), s65, R] := by rw [d3e_]; exact hH119
     have hd122 : DevAt pb30 sg116 db28 d3.la d3.lo := by rw [d3e_]; exact hd117
     have d3f_ : Few d3.p (((kk + 4) + ((kk : Int).toNat + 4))) := by rw [d3e_]; exact (few_cr d2f_ _)
     have d3k_ : LoOk d3.lo d3.la.length := by rw [d3e_]; exact (LoOk.nil _)
     have hc2_ : C2 kk d3 := by rw [d3e_, d2e_]; exact C2.of hkk hc1 (by omega) _ rfl keep
     have hl3_ := hc2_.len
     have hN3_ : ((d3.la.length : Nat) : Int) - 2 = (kk : Int) := by omega
     obtain ⟨hop_, hok3_, hmk1_, hmk2_⟩ := hc2_.op
     have hmk_ : 0 ≤ ((opS d3 (kk : Int)).hd).mrk ∧ ((opS d3 (kk : Int)).hd).mrk ≤ 100 := ⟨hmk1_, hmk2_⟩
     refine zf (ze (hK115 _ _ (yq fun K123 hK123 => (yq fun K124 hK124 => ?_))))
     let J126 : (Nat → Value) → World → Prop := fun r__ w__ => ∃ (od1 : Bool), Has E w__ [sg116, (yP pb30 d3.p), (yo b110 #[va92, vb93] 61), (yR rb23 (runOf (kk : Int) v) db28 sb25 x64), R] ∧ (od1 = false → PstD d3.la) ∧ r__ 0 = (.int .u8 nn) ∧ r__ 1 = v1 ∧ r__ 2 = (.int .u8 aa) ∧ r__ 3 = (yi at_) ∧ r__ 4 = v2 ∧ r__ 5 = (.bool fl) ∧ r__ 6 = v3 ∧ r__ 14 = (.bool false) ∧ r__ 15 = (yp rb23) ∧ r__ 16 = (yi (i : Int)) ∧ r__ 17 = (yp b110) ∧ r__ 43 = (.bool false) ∧ r__ 51 = (.bool false) ∧ r__ 55 = (.bool (decide ((i : Int) < ((first.length : Nat) : Int)))) ∧ r__ 102 = (.bool od1)
     have hJ127 : ∀ r w, J126 r w → K124 (Go.Q.fr 256 r) w := by
      rintro r130 w128 ⟨od1, hH129, hod1, e125_0, e125_1, e125_2, e125_3, e125_4, e125_5, e125_6, e125_14, e125_15, e125_16, e125_17, e125_43, e125_51, e125_55, e125_102⟩
      refine hK124 _ _ (z7 e125_102 (fun h131 => ?_) (fun h131 => ?_))
      ·
       refine yq fun K132 hK132 => (zd (za (zc (.bool true) rfl (zf (ze (hK132 _ _ (wp_ret (zx (zr Tryz.results4  (v := (.bool true)) rfl ?_)))))))))
       have hH133 := (hH129.front 4 rfl).first 1 rfl
       exact ⟨by first | rfl | (rw [decide_eq_true rfl]), hH133⟩
      ·
       have hps3_ : PstD d3.la := hod1 (by simpa using h131)
       refine wp_skip (ze (hK123 _ _ (yq fun K134 hK134 => (zd (za (zb (yp rb23) e125_15 (za (zl rfl (za (zg (k := 0) (fun _ => by kernel_rfl) rfl (za (zj (v := (yp db28)) Tryz.underlying25 rfl rfl hH129 (zh 3 rfl) (CellsAt.one rfl) (za (zk (vs := #[(yp db28)]) ca16 rfl (zI rfl) (sopen_ok (d := d3) ((hH129.front 1 rfl).front 1 rfl).all2 hd122 (by omega) (by omega) hc2_.pw.1 hc2_.f64 hc2_.lo (hg.mono (zh 2 rfl)) (show opE d3 (((d3.la.length : Nat) : Int) - 2) = 0 by rw [hN3_]; exact hop_)) ?_))))))))))))))
       rintro _ w143 ⟨sb135, ab136, sg137, ss138, rfl, hd139, hs140, hX141⟩
       refine ⟨_, rfl, ?_⟩
       have hH142 := hX141.of_all4
       have hH144 : Has E w143 [ss138, (yo ab136 #[(yp db28), (yi 2), (yi (kk : Int))] 265), sg137, (yP pb30 d3.p), (yo b110 #[va92, vb93] 61), (yR rb23 (runOf (kk : Int) v) db28 sb25 x64), R] := by have h_ := hH142; rw [hN3_] at h_; exact h_
       have hs145 : StmAt db28 ab136 sb135 ss138 (opS d3 (kk : Int)) := by have h_ := hs140; rw [hN3_] at h_; exact h_
       refine za (zb (.tuple #[(yp sb135), (yi (0 : Int))]) rfl (za (zp (v := (yp sb135)) rfl rfl (za (zp (v := (yi (0 : Int))) rfl rfl (za (zc (yp sb135) rfl (za (zc (yi (0 : Int)) rfl (zf (ze (hK134 _ _ (yq fun K146 hK146 => (yq fun K147 hK147 => (zd (za (zb (yp sb135) rfl (za (o_pnil (p := some _) Tryz.underlying34 rfl rfl (za (zb (.bool false) rfl (zo 113 rfl rfl (zb (yi (0 : Int)) rfl (zo 113 rfl rfl (o_neq (a := (0 : Int)) (b := 0) rfl rfl ?_)))))))))))))))))))))))))
       refine za (zm (u := (.bool false)) rfl rfl (zf (ze (hK147 _ _ (zK rfl rfl (wp_skip (ze (hK146 _ _ (yq fun K148 hK148 => (zd (za (zb (yp sb135) rfl (za (zk (vs := #[(yp sb135)]) ca19 rfl (zI rfl) (shead_c (v := (opS d3 (kk : Int))) (db := db28) (ab := ab136) hH144.all (hs145.rd.mono (zh 0 rfl))) ?_))))))))))))))
       rintro _ w151 ⟨rfl, hX149⟩
       refine ⟨_, rfl, ?_⟩
       have hH150 := hX149.of_all
       refine za (zJ (v := (yi ((opS d3 (kk : Int)).hd).mrk)) (fun _ => by kernel_rfl) (za (zb (yi at_) e125_3 ?_)))
       have hw152 := wrap_u64 at_
       refine za (o_conv (c := (IntKind.wrap .u64 at_)) Tryz.underlying3 Tryz.underlying65 rfl rfl (za (o_rem (a := IntKind.wrap .u64 at_) (b := 9) (c := (IntKind.wrap .u64 at_) % 9) rfl rfl (by omega) ((Int.tmod_eq_emod_of_nonneg (by first | exact Int.natCast_nonneg _ | omega))) (za (o_conv (c := ((IntKind.wrap .u64 at_) % 9)) Tryz.underlying65 Tryz.underlying3 rfl (w64 (by omega) (by omega)) (za (zD (a := ((opS d3 (kk : Int)).hd).mrk) (b := (IntKind.wrap .u64 at_) % 9) rfl rfl (w64 (by omega) (by omega)) (za (o_sub (a := (((opS d3 (kk : Int)).hd).mrk) + ((IntKind.wrap .u64 at_) % 9)) (b := 4) rfl rfl (w64 (by omega) (by omega)) (za (o_max (a := ((((opS d3 (kk : Int)).hd).mrk) + ((IntKind.wrap .u64 at_) % 9)) - 4) (b := 0) rfl rfl (za (zc (yi (max (((((opS d3 (kk : Int)).hd).mrk) + ((IntKind.wrap .u64 at_) % 9)) - 4) 0)) rfl (zf (ze (hK148 _ _ (yq fun K153 hK153 => (yq fun K154 hK154 => (zd (za (zb (yp sb135) rfl (za (zb (yi (max (((((opS d3 (kk : Int)).hd).mrk) + ((IntKind.wrap .u64 at_) % 9)) - 4) 0)) rfl (za (zk (vs := #[(yp sb135), (yi (max (((((opS d3 (kk : Int)).hd).mrk) + ((IntKind.wrap .u64 at_) % 9)) - 4) 0))]) ca28 rfl (zF rfl rfl) (scut_c (d := d3) (v := (opS d3 (kk : Int))) (n := (kk : Int)) (((hH150.front 1 rfl).front 3 rfl).front 3 rfl).all4 hd139 hs145 d3f_ (by omega) d3k_ (by omega) hc2_.f64 (by omega) hok3_ (hg.mono (zh 2 rfl)) (last := max (((((opS d3 (kk : Int)).hd).mrk) + ((IntKind.wrap .u64 at_) % 9)) - 4) 0)) ?_)))))))))))))))))))))))))
       rintro _ w161 ⟨sg155, ss157, rfl, hd156, hs158, hX159⟩
       refine ⟨_, rfl, ?_⟩
       have hH160 := hX159.of_all4
       obtain ⟨R4, R4e_⟩ : ∃ x_ : Int × Dv × StmS, x_ = (ctS d3 (opS d3 (kk : Int)) (max (((((opS d3 (kk : Int)).hd).mrk) + ((IntKind.wrap .u64 at_) % 9)) - 4) 0)) := ⟨_, rfl⟩
       have hLT_ : 0 ≤ max (((((opS d3 (kk : Int)).hd).mrk) + ((IntKind.wrap .u64 at_) % 9)) - 4) 0 ∧ max (((((opS d3 (kk : Int)).hd).mrk) + ((IntKind.wrap .u64 at_) % 9)) - 4) 0 ≤ 1000 := ⟨by omega, by omega⟩
       have hc3_ : C3 kk d3 (max (((((opS d3 (kk : Int)).hd).mrk) + ((IntKind.wrap .u64 at_) % 9)) - 4) 0) R4 := by rw [R4e_]; exact hc2_.ct hLT_
       have hl4_ := hc3_.len
       have hH162 : Has E w161 [sg155, (yP pb30 R4.2.1.p), (yo ab136 #[(yp db28), (yi 2), (yi (kk : Int))] 265), ss157, (yo b110 #[va92, vb93] 61), (yR rb23 (runOf (kk : Int) v) db28 sb25 x64), R] := by rw [R4e_]; exact hH160
       have hd164 : DevAt pb30 sg155 db28 R4.2.1.la R4.2.1.lo := by rw [R4e_]; exact hd156
       have R4f_ : Few R4.2.1.p ((((kk + 4) + ((kk : Int).toNat + 4)) + 2)) := by rw [R4e_]; exact (few_ctS d3f_ _)
       have R4k_ : LoOk R4.2.1.lo R4.2.1.la.length := by rw [R4e_]; exact (ctS_lo d3k_ _)
       have hs163 : StmAt db28 ab136 sb135 ss157 R4.2.2 := by rw [R4e_]; exact hs158
       refine za (o_neq (a := (ctS d3 (opS d3 (kk : Int)) (max (((((opS d3 (kk : Int)).hd).mrk) + ((IntKind.wrap .u64 at_) % 9)) - 4) 0)).1) (b := 0) rfl rfl (za (zb (.bool (decide ((ctS d3 (opS d3 (kk : Int)) (max (((((opS d3 (kk : Int)).hd).mrk) + ((IntKind.wrap .u64 at_) % 9)) - 4) 0)).1 ≠ 0))) rfl ?_)))
       by_cases h165 : (ctS d3 (opS d3 (kk : Int)) (max (((((opS d3 (kk : Int)).hd).mrk) + ((IntKind.wrap .u64 at_) % 9)) - 4) 0)).1 ≠ 0
       ·
        exact absurd (hc2_.ct hLT_).ok h165
       ·
        refine zo 131 rfl (cF h165) (zb (yp sb135) rfl (zo 131 rfl (cF h165) (zk (vs := #[(yp sb135)]) ca29 rfl (zI rfl) (slast_c (v := R4.2.2) (db := db28) (ab := ab136) (n := (kk : Int)) hH162.all (hs163.rd.mono (zh 3 rfl)) hc3_.st) ?_)))
        rintro _ w168 ⟨rfl, hX166⟩
        refine ⟨_, rfl, ?_⟩
        have hH167 := hX166.of_all
        refine zo 131 rfl (cF h165) (zb (yi (max (((((opS d3 (kk : Int)).hd).mrk) + ((IntKind.wrap .u64 at_) % 9)) - 4) 0)) rfl (zo 131 rfl (cF h165) (o_neq (a := (lastV R4.2.2)) (b := max (((((opS d3 (kk : Int)).hd).mrk) + ((IntKind.wrap .u64 at_) % 9)) - 4) 0) rfl rfl (za (zm (u := (.bool (decide ((lastV R4.2.2) ≠ max (((((opS d3 (kk : Int)).hd).mrk) + ((IntKind.wrap .u64 at_) % 9)) - 4) 0)))) ((rfl : _ = _).trans (cF h165)) rfl (zf (ze (hK154 _ _ (zt rfl (fun h169 => ?_) (fun h169 => ?_))))))))))
        ·
         exact absurd hc3_.last h169
        ·
         refine wp_skip (ze (hK153 _ _ (yq fun K170 hK170 => (zd (za (zb (yp sb135) rfl (za (zk (vs := #[(yp sb135), (yi (-1))]) ca17 rfl (zF rfl rfl) (sentries_c (v := R4.2.2) (db := db28) (ab := ab136) (g := -1) (n := (kk : Int)) hH167.all (hs163.rd.mono (zh 3 rfl)) hc3_.st) ?_))))))))
         rintro _ w176 ⟨v171, s172, rfl, ho173, hX174⟩
         refine ⟨_, rfl, ?_⟩
         have hH175 := hX174.of_all1
         refine za (zQ Tryz.underlying37 rfl ho173.sl (za (zc (yi (((R4.2.2.l.drop (posE R4.2.2.l (-1)).toNat).length : Nat) : Int)) rfl (zf (ze (hK170 _ _ (yq fun K177 hK177 => (yq fun K178 hK178 => (zd (za (zb (yp sb135) rfl (za (zb (yi (max (((((opS d3 (kk : Int)).hd).mrk) + ((IntKind.wrap .u64 at_) % 9)) - 4) 0)) rfl (za (zD (a := max (((((opS d3 (kk : Int)).hd).mrk) + ((IntKind.wrap .u64 at_) % 9)) - 4) 0) (b := 1) rfl rfl (w64 (by omega) (by omega)) (za (zk (vs := #[(yp sb135), (yi ((max (((((opS d3 (kk : Int)).hd).mrk) + ((IntKind.wrap .u64 at_) % 9)) - 4) 0) + 1))]) ca17 rfl (zF rfl rfl) (sentries_c (v := R4.2.2) (db := db28) (ab := ab136) (g := (max (((((opS d3 (kk : Int)).hd).mrk) + ((IntKind.wrap .u64 at_) % 9)) - 4) 0) + 1) (n := (kk : Int)) hH175.all (hs163.rd.mono (zh 4 rfl)) hc3_.st) ?_)))))))))))))))))
         rintro _ w184 ⟨v179, s180, rfl, ho181, hX182⟩
         refine ⟨_, rfl, ?_⟩
         have hH183 := hX182.of_all1
         refine za (zQ Tryz.underlying37 rfl ho181.sl (za (o_gtr (a := (((R4.2.2.l.drop (posE R4.2.2.l ((max (((((opS d3 (kk : Int)).hd).mrk) + ((IntKind.wrap .u64 at_) % 9)) - 4) 0) + 1)).toNat).length : Nat) : Int)) (b := 0) rfl rfl (zf (ze (hK178 _ _ (zt rfl (fun h185 => ?_) (fun h185 => ?_))))))))
         ·
          exact absurd h185 (by rw [hc3_.none]; decide)
         ·
          refine wp_skip (ze (hK177 _ _ (yq fun K186 hK186 => (yq fun K187 hK187 => (zd (za (zc (yi 0) rfl (zf (ze (hK187 _ _ (wp_block ?_)))))))))))
          let I189 : Nat → (Nat → Value) → World → Prop := fun n__ r__ w__ => ∃ (j : Nat) (w : StmS) (ss5 : List Hp), n__ = second.length - j ∧ Has E w__ [ss5, s180, s172, sg155, (yP pb30 R4.2.1.p), (yo ab136 #[(yp db28), (yi 2), (yi (kk : Int))] 265), (yo b110 #[va92, vb93] 61), (yR rb23 (runOf (kk : Int) v) db28 sb25 x64), R] ∧ (j ≤ second.length) ∧ (StmAt db28 ab136 sb135 ss5 w) ∧ (C4 kk R4.2.2 w (max (((((opS d3 (kk : Int)).hd).mrk) + ((IntKind.wrap .u64 at_) % 9)) - 4) 0) j) ∧ r__ 0 = (.int .u8 nn) ∧ r__ 1 = v1 ∧ r__ 2 = (.int .u8 aa) ∧ r__ 3 = (yi at_) ∧ r__ 4 = v2 ∧ r__ 5 = (.bool fl) ∧ r__ 6 = v3 ∧ r__ 14 = (.bool false) ∧ r__ 15 = (yp rb23) ∧ r__ 16 = (yi (i : Int)) ∧ r__ 17 = (yp b110) ∧ r__ 18 = (yp sb135) ∧ r__ 19 = (yi (0 : Int)) ∧ r__ 20 = (yi (max (((((opS d3 (kk : Int)).hd).mrk) + ((IntKind.wrap .u64 at_) % 9)) - 4) 0)) ∧ r__ 21 = (yi (((R4.2.2.l.drop (posE R4.2.2.l (-1)).toNat).length : Nat) : Int)) ∧ r__ 22 = (yi (j : Int)) ∧ r__ 43 = (.bool false) ∧ r__ 51 = (.bool false) ∧ r__ 55 = (.bool (decide ((i : Int) < ((first.length : Nat) : Int)))) ∧ r__ 102 = (.bool od1) ∧ r__ 116 = (.bool false) ∧ r__ 136 = (.bool (decide ((lastV R4.2.2) ≠ max (((((opS d3 (kk : Int)).hd).mrk) + ((IntKind.wrap .u64 at_) % 9)) - 4) 0))) ∧ r__ 145 = (.bool (decide (0 < (((R4.2.2.l.drop (posE R4.2.2.l ((max (((((opS d3 (kk : Int)).hd).mrk) + ((IntKind.wrap .u64 at_) % 9)) - 4) 0) + 1)).toNat).length : Nat) : Int))))
          have hH190 : Has E w184 [ss157, s180, s172, sg155, (yP pb30 R4.2.1.p), (yo ab136 #[(yp db28), (yi 2), (yi (kk : Int))] 265), (yo b110 #[va92, vb93] 61), (yR rb23 (runOf (kk : Int) v) db28 sb25 x64), R] := Has.pick hH183 [5, 0, 0, 0, 0, 0, 0, 0, 0] (by kernel_rfl)
          refine zX I189 _ ⟨0, R4.2.2, ss157, rfl, hH190, Nat.zero_le _, hs163, C4.start hc3_, e125_0, e125_1, e125_2, e125_3, e125_4, e125_5, e125_6, e125_14, e125_15, e125_16, e125_17, rfl, rfl, rfl, rfl, rfl, e125_43, e125_51, e125_55, e125_102, rfl, rfl, rfl⟩ ?_
          rintro n_ r193 w191 ⟨j, w, ss5, rfl, hH192, hj, hs5, hc4, e188_0, e188_1, e188_2, e188_3, e188_4, e188_5, e188_6, e188_14, e188_15, e188_16, e188_17, e188_18, e188_19, e188_20, e188_21, e188_22, e188_43, e188_51, e188_55, e188_102, e188_116, e188_136, e188_145⟩
          have hla4_ := hc4.last
          obtain ⟨hlb1_, hlb2_, hlb3_⟩ := last_le hc4.ok
          refine yq fun K194 hK194 => (yq fun K195 hK195 => (zd (za (zb (yi (j : Int)) e188_22 (za (zb v2 e188_4 (za (zQ Tryz.underlying46 rfl hs2 (za (zL (a := (j : Int)) (b := ((second.length : Nat) : Int)) rfl rfl (zf (ze (hK195 _ _ (zt rfl (fun h196 => ?_) (fun h196 => ?_)))))))))))))))
          ·
           refine wp_skip (ze (hK194 _ _ (yq fun K197 hK197 => (wp_block (yq fun K198 hK198 => (zd (za (zb v2 e188_4 (za (zb (yi (j : Int)) e188_22 ?_))))))))))
           obtain ⟨x202, hx203⟩ : ∃ x_, second[((j : Int)).toNat]? = some x_ := zN (by omega)
           refine za (z6 Tryz.underlying46 ti9 rfl hs2 rfl (by omega) hx203 fun b199 o200 hc201 => (za (zj (v := (S x202)) Tryz.underlying9 rfl rfl hH192 (zh 8 rfl) hc201 (za (z8 Tryz.underlying9 rfl (za (o_leq (a := (x202.length : Int)) (b := 200) rfl rfl (zf (ze (hK198 _ _ (zt rfl (fun h204 => ?_) (fun h204 => ?_))))))))))))
           ·
            refine Rest.region mixed (by kernel_rfl) ?_
            have hH205 : Has E { w191 with drawn := w191.drawn + 1 } [ss5, s180, s172, sg155, (yP pb30 R4.2.1.p), (yo ab136 #[(yp db28), (yi 2), (yi (kk : Int))] 265), (yo b110 #[va92, vb93] 61), (yR rb23 (runOf (kk : Int) v) db28 sb25 x64), R] := Has0.drew hH192 _
            refine Rest.phaseA (fun w_ => Has E w_ [R]) 0 12 12 rfl (by decide) (by kernel_rfl) (zn 0 rfl (by kernel_rfl) (fun w_ h_ => zb (yp sb135) e188_18 ⟨rfl, rfl⟩) (zn 1 rfl (by kernel_rfl) (fun w_ h_ => zb (yp sb135) e188_18 ⟨rfl, rfl⟩) (zn 4 rfl (by kernel_rfl) (fun w_ h_ => zb (yi (j : Int)) e188_22 ⟨rfl, rfl⟩) (zn 5 rfl (by kernel_rfl) (fun w_ h_ => o_rem (a := (j : Int)) (b := 2) (c := (j : Int) % 2) rfl rfl (by omega) ((Int.tmod_eq_emod_of_nonneg (by first | exact Int.natCast_nonneg _ | omega))) ⟨rfl, rfl⟩) (zn 7 rfl (by kernel_rfl) (fun w_ h_ => zb v2 e188_4 ⟨rfl, rfl⟩) (zn 8 rfl (by kernel_rfl) (fun w_ h_ => zb (yi (j : Int)) e188_22 ⟨rfl, rfl⟩) ?_))))))
            obtain ⟨b206, o207, hc208, ho209⟩ := ix_ex1 Tryz.underlying46 ti9 hs2 (by omega) hx203
            refine zn 9 rfl (by kernel_rfl) (fun w_ h_ => ho209 rfl rfl ⟨rfl, rfl⟩) (zn 10 rfl (by kernel_rfl) (fun w_ h_ => zj (v := (S x202)) Tryz.underlying9 rfl rfl h_ (zh 0 rfl) hc208 ⟨rfl, rfl⟩) ?_)
            have hH210 := (hH205.front 8 rfl).first 1 rfl
            refine a_two 2 11 (by kernel_rfl) hH210 ?_ ?_
            ·
             have hH211 : Has E { w191 with drawn := w191.drawn + 1 } [R] := (hH205.front 8 rfl).first 1 rfl
             refine ok_w 2 rfl (zk (vs := #[(yp sb135)]) ca29 rfl (zI rfl) (slast_c (v := w) (db := db28) (ab := ab136) (n := (kk : Int)) hH205.all (hs5.rd.mono (zh 0 rfl)) hc4.ok) ?_)
             rintro _ w214 ⟨rfl, hX212⟩
             refine ⟨_, rfl, ?_⟩
             have hH213 := hX212.of_all
             refine zn 3 rfl (by kernel_rfl) (fun w_ h_ => zD (a := (lastV w)) (b := 1) rfl rfl (w64 (by omega) (by omega)) ⟨rfl, rfl⟩) (zn 6 rfl (by kernel_rfl) (fun w_ h_ => zD (a := (lastV w) + 1) (b := (j : Int) % 2) rfl rfl (w64 (by omega) (by omega)) ⟨rfl, rfl⟩) ?_)
             have hH215 := (hH213.front 8 rfl).first 1 rfl
             refine a_w 11 rfl (by kernel_rfl) hH215 (zw (ps := #[(0, (S x202))]) (cells := #[(S x202)]) Tryz.underlying46 ti9 (by decide) (yb rfl) (by kernel_rfl) hH213 fun b216 w217 hH218 => ?_)
             have hH219 := (hH218.front 9 rfl).first 1 rfl
             refine zM (by kernel_rfl) hH219 (zO 12 rfl (by kernel_rfl) (zk (vs := #[(yp sb135), (yi (((lastV w) + 1) + ((j : Int) % 2))), (.slice (some ⟨b216, 0, none⟩) 1 1)]) ca30 rfl (args3 rfl rfl rfl) (sappend_c (db := db28) (ab := ab136) (v := w) (g := ((lastV w) + 1) + ((j : Int) % 2)) (ds := [x202]) (n := (kk : Int)) (hH218.front 1 rfl).all1 hs5 ((zW (f := sV) (l := [x202]) (g := (0, 0)) (T := 9) rfl rfl (by simp)).mono (zh 0 rfl)) ((CellsAt.one rfl).mono (zh 5 rfl)) hc4.ok (by simp) (by simp; omega)) ?_))
             rintro _ w224 ⟨sg220, rfl, hd221, hX222⟩
             refine ⟨_, rfl, ?_⟩
             have hH223 := hX222.of_all1
             refine Rest.done (by kernel_rfl) (zC (ze (hK197 _ _ (zd (za (zb (yi (j : Int)) e188_22 (za (zD (a := (j : Int)) (b := 1) rfl rfl (w64 (by omega) (by omega)) (za (zc (yi ((j : Int) + 1)) rfl (zf ?_)))))))))))
             have hH225 : Has E w224 [sg220, s180, s172, sg155, (yP pb30 R4.2.1.p), (yo ab136 #[(yp db28), (yi 2), (yi (kk : Int))] 265), (yo b110 #[va92, vb93] 61), (yR rb23 (runOf (kk : Int) v) db28 sb25 x64), R] := Has.pick hH223 [0, 1, 1, 1, 1, 1, 1, 1, 1] (by kernel_rfl)
             refine ze ⟨second.length - (j + 1), _, rfl, ?_, ?_⟩
             · omega
             · exact ⟨(j + 1), (apS (kk : Int) w (((lastV w) + 1) + ((j : Int) % 2)) [x202].flatten), sg220, rfl, hH225, (by omega), (hd221), (hc4.step (by omega) _), e188_0, e188_1, e188_2, e188_3, e188_4, e188_5, e188_6, e188_14, e188_15, e188_16, e188_17, e188_18, e188_19, e188_20, e188_21, rfl, e188_43, e188_51, e188_55, e188_102, e188_116, e188_136, e188_145⟩
            ·
             have hH226 : Has E { w191 with drawn := w191.drawn + 1 } [R] := (hH205.front 8 rfl).first 1 rfl
             refine ok_w 11 rfl (zw (ps := #[(0, (S x202))]) (cells := #[(S x202)]) Tryz.underlying46 ti9 (by decide) (yb rfl) (by kernel_rfl) hH205 fun b227 w228 hH229 => ?_)
             have hH230 := (hH229.front 9 rfl).first 1 rfl
             refine a_w 2 rfl (by kernel_rfl) hH230 (zk (vs := #[(yp sb135)]) ca29 rfl (zI rfl) (slast_c (v := w) (db := db28) (ab := ab136) (n := (kk : Int)) hH229.all (hs5.rd.mono (zh 1 rfl)) hc4.ok) ?_)
             rintro _ w233 ⟨rfl, hX231⟩
             refine ⟨_, rfl, ?_⟩
             have hH232 := hX231.of_all
             refine zn 3 rfl (by kernel_rfl) (fun w_ h_ => zD (a := (lastV w)) (b := 1) rfl rfl (w64 (by omega) (by omega)) ⟨rfl, rfl⟩) (zn 6 rfl (by kernel_rfl) (fun w_ h_ => zD (a := (lastV w) + 1) (b := (j : Int) % 2) rfl rfl (w64 (by omega) (by omega)) ⟨rfl, rfl⟩) ?_)
             have hH234 := (hH232.front 9 rfl).first 1 rfl
             refine zM (by kernel_rfl) hH234 (zO 12 rfl (by kernel_rfl) (zk (vs := #[(yp sb135), (yi (((lastV w) + 1) + ((j : Int) % 2))), (.slice (some ⟨b227, 0, none⟩) 1 1)]) ca30 rfl (args3 rfl rfl rfl) (sappend_c (db := db28) (ab := ab136) (v := w) (g := ((lastV w) + 1) + ((j : Int) % 2)) (ds := [x202]) (n := (kk : Int)) (hH232.front 1 rfl).all1 hs5 ((zW (f := sV) (l := [x202]) (g := (0, 0)) (T := 9) rfl rfl (by simp)).mono (zh 0 rfl)) ((CellsAt.one rfl).mono (zh 5 rfl)) hc4.ok (by simp) (by simp; omega)) ?_))
             rintro _ w239 ⟨sg235, rfl, hd236, hX237⟩
             refine ⟨_, rfl, ?_⟩
             have hH238 := hX237.of_all1
             refine Rest.done (by kernel_rfl) (zC (ze (hK197 _ _ (zd (za (zb (yi (j : Int)) e188_22 (za (zD (a := (j : Int)) (b := 1) rfl rfl (w64 (by omega) (by omega)) (za (zc (yi ((j : Int) + 1)) rfl (zf ?_)))))))))))
             have hH240 : Has E w239 [sg235, s180, s172, sg155, (yP pb30 R4.2.1.p), (yo ab136 #[(yp db28), (yi 2), (yi (kk : Int))] 265), (yo b110 #[va92, vb93] 61), (yR rb23 (runOf (kk : Int) v) db28 sb25 x64), R] := Has.pick hH238 [0, 1, 1, 1, 1, 1, 1, 1, 1] (by kernel_rfl)
             refine ze ⟨second.length - (j + 1), _, rfl, ?_, ?_⟩
             · omega
             · exact ⟨(j + 1), (apS (kk : Int) w (((lastV w) + 1) + ((j : Int) % 2)) [x202].flatten), sg235, rfl, hH240, (by omega), (hd236), (hc4.step (by omega) _), e188_0, e188_1, e188_2, e188_3, e188_4, e188_5, e188_6, e188_14, e188_15, e188_16, e188_17, e188_18, e188_19, e188_20, e188_21, rfl, e188_43, e188_51, e188_55, e188_102, e188_116, e188_136, e188_145⟩
           ·
            refine wp_skip (zC (ze (hK197 _ _ (zd (za (zb (yi (j : Int)) e188_22 (za (zD (a := (j : Int)) (b := 1) rfl rfl (w64 (by omega) (by omega)) (za (zc (yi ((j : Int) + 1)) rfl (zf (ze ⟨second.length - (j + 1), _, rfl, ?_, ?_⟩))))))))))))
            · omega
            · exact ⟨(j + 1), w, ss5, rfl, hH192, (by omega), (hs5), (hc4.skip), e188_0, e188_1, e188_2, e188_3, e188_4, e188_5, e188_6, e188_14, e188_15, e188_16, e188_17, e188_18, e188_19, e188_20, e188_21, rfl, e188_43, e188_51, e188_55, e188_102, e188_116, e188_136, e188_145⟩
          ·
           refine wp_exit (zy (zy (x_in ((ze (hK186 _ _ (yq fun K241 hK241 => (zd (za (zb (yp sb135) e188_18 (za (zk (vs := #[(yp sb135), (yi (-1))]) ca17 rfl (zF rfl rfl) (sentries_c (v := w) (db := db28) (ab := ab136) (g := -1) (n := (kk : Int)) hH192.all (hs5.rd.mono (zh 0 rfl)) hc4.ok) ?_))))))))))))
           rintro _ w247 ⟨v242, s243, rfl, ho244, hX245⟩
           refine ⟨_, rfl, ?_⟩
           have hH246 : Has E w247 [s243, ss5, s180, s172, sg155, (yP pb30 R4.2.1.p), (yo ab136 #[(yp db28), (yi 2), (yi (kk : Int))] 265), (yo b110 #[va92, vb93] 61), (yR rb23 (runOf (kk : Int) v) db28 sb25 x64), R] := hX245.of_all1
           refine za (zc v242 rfl (zf (ze (hK241 _ _ (yq fun K248 hK248 => (yq fun K249 hK249 => ?_))))))
           let J251 : (Nat → Value) → World → Prop := fun r__ w__ => ∃ (d5 : Dv) (sg5 : List Hp) (bb : Bool), Has E w__ [s243, sg5, (yP pb30 d5.p), (yo b110 #[va92, vb93] 61), (yR rb23 (runOf (kk : Int) v) db28 sb25 x64), R] ∧ (DevAt pb30 sg5 db28 d5.la d5.lo) ∧ (Few d5.p 390000) ∧ (LoOk d5.lo d5.la.length) ∧ (d5.la.length = kk + 2) ∧ (Full64 d5.la) ∧ (bb = false) ∧ (∃ L5, (∀ keep_, C5 kk (d5.cr keep_) L5) ∧ (∃ a_, L5 = R4.2.2.l ++ a_) ∧ (∃ b_, w.l = L5 ++ b_) ∧ (fl = true → w.l = L5)) ∧ r__ 0 = (.int .u8 nn) ∧ r__ 1 = v1 ∧ r__ 2 = (.int .u8 aa) ∧ r__ 3 = (yi at_) ∧ r__ 4 = v2 ∧ r__ 5 = (.bool fl) ∧ r__ 6 = v3 ∧ r__ 14 = (.bool false) ∧ r__ 15 = (yp rb23) ∧ r__ 16 = (yi (i : Int)) ∧ r__ 17 = (yp b110) ∧ r__ 18 = (yp sb135) ∧ r__ 19 = (yi (0 : Int)) ∧ r__ 20 = (yi (max (((((opS d3 (kk : Int)).hd).mrk) + ((IntKind.wrap .u64 at_) % 9)) - 4) 0)) ∧ r__ 21 = (yi (((R4.2.2.l.drop (posE R4.2.2.l (-1)).toNat).length : Nat) : Int)) ∧ r__ 22 = (yi (j : Int)) ∧ r__ 23 = v242 ∧ r__ 43 = (.bool false) ∧ r__ 51 = (.bool false) ∧ r__ 55 = (.bool (decide ((i : Int) < ((first.length : Nat) : Int)))) ∧ r__ 102 = (.bool od1) ∧ r__ 116 = (.bool false) ∧ r__ 136 = (.bool (decide ((lastV R4.2.2) ≠ max (((((opS d3 (kk : Int)).hd).mrk) + ((IntKind.wrap .u64 at_) % 9)) - 4) 0))) ∧ r__ 145 = (.bool (decide (0 < (((R4.2.2.l.drop (posE R4.2.2.l ((max (((((opS d3 (kk : Int)).hd).mrk) + ((IntKind.wrap .u64 at_) % 9)) - 4) 0) + 1)).toNat).length : Nat) : Int)))) ∧ r__ 149 = (.bool (decide ((j : Int) < ((second.length : Nat) : Int)))) ∧ r__ 180 = (.bool bb)
           have hJ252 : ∀ r w, J251 r w → K249 (Go.Q.fr 256 r) w := by
            rintro r255 w253 ⟨d5, sg5, bb, hH254, hd5, hfw5, hlk5, hl5_, hf5_, hbb, hcr5, e250_0, e250_1, e250_2, e250_3, e250_4, e250_5, e250_6, e250_14, e250_15, e250_16, e250_17, e250_18, e250_19, e250_20, e250_21, e250_22, e250_23, e250_43, e250_51, e250_55, e250_102, e250_116, e250_136, e250_145, e250_149, e250_180⟩
            obtain ⟨L5, hc5c_, ⟨ex1, hex1_⟩, ⟨ex2, hex2_⟩, hex3_⟩ := hcr5
            refine hK249 _ _ (z7 e250_180 (fun h256 => ?_) (fun h256 => ?_))
            ·
             exact absurd h256 (by rw [hbb]; decide)
            ·
             refine wp_skip (ze (hK248 _ _ (yq fun K257 hK257 => (zd (za (zb (yp rb23) e250_15 (za (zl rfl (za (zg (k := 0) (fun _ => by kernel_rfl) rfl (za (zj (v := (yp db28)) Tryz.underlying25 rfl rfl hH254 (zh 4 rfl) (CellsAt.one rfl) (za (zw (ps := #[(0, (yp db28))]) (cells := #[(yp db28)]) Tryz.underlying74 ti25 (by decide) (yb rfl) (by kernel_rfl) hH254 fun b258 w259 hH260 => (za (zk (vs := #[(.slice (some ⟨b258, 0, none⟩) 1 1)]) ca25 rfl (zI rfl) (look8_c (d := d5) ((hH260.front 3 rfl).front 3 rfl).all2 hd5 (by omega) hf5_ hlk5 (by omega) (vd := (.slice (some ⟨b258, 0, none⟩) 1 1)) ((zW (f := ptC) (l := [db28]) (g := (0, 0)) (T := 25) rfl rfl (by simp)).mono (zh 0 rfl))) ?_))))))))))))))))
             rintro _ w278 ⟨va261, vb262, vf263, vo264, F265, O266, s267, s268, s269, s270, rfl, ho271, ho272, ho273, ho274, ho275, hX276⟩
             refine ⟨_, rfl, ?_⟩
             have hH277 := hX276.of_all6
             refine zB (zv (vs := [va261, vb262]) (c' := #[va261, vb262]) ti61 e250_17 rfl rfl rfl (by intro u hu; simp only [List.mem_cons, List.not_mem_nil, or_false] at hu; rcases hu with rfl | rfl <;> first | rfl | exact ho271.one | exact ho272.one) (by simp) (by kernel_rfl) (hH277.front 8 rfl) fun w279 hH280 => (zf (ze (hK257 _ _ (yq fun K281 hK281 => (zd (za (zb (yp rb23) e250_15 (za (zl rfl (za (zg (k := 0) (fun _ => by kernel_rfl) rfl (za (zj (v := (yp db28)) Tryz.underlying25 rfl rfl hH280 (zh 9 rfl) (CellsAt.one rfl) (za (zb v3 e250_6 (za (zk (vs := #[(yp db28), v3]) ca26 rfl (zF rfl rfl) (dv_cr (d := d5) ((hH280.front 6 rfl).front 6 rfl).all2 hd5 hlk5 (keep := keep) (hkp.mono (zh 8 rfl))) ?_))))))))))))))))))
             rintro _ w286 ⟨sg282, rfl, hd283, hX284⟩
             refine ⟨_, rfl, ?_⟩
             have hH285 := hX284.of_all2
             obtain ⟨d6, d6e_⟩ : ∃ x_ : Dv, x_ = (d5.cr keep) := ⟨_, rfl⟩
             have hH287 : Has E w286 [sg282, (yP pb30 d6.p), (yo b110 #[va261, vb262] 61), s267, s268, s269, s270, (yo b258 #[(yp db28)] 25), s243, (yR rb23 (runOf (kk : Int) v) db28 sb25 x64), R] := by rw [d6e_]; exact hH285
             have hd288 : DevAt pb30 sg282 db28 d6.la d6.lo := by rw [d6e_]; exact hd283
             have d6f_ : Few d6.p (390000) := by rw [d6e_]; exact (few_cr hfw5 _)
             have d6k_ : LoOk d6.lo d6.la.length := by rw [d6e_]; exact (LoOk.nil _)
             have hc5_ : C5 kk d6 L5 := by rw [d6e_]; exact hc5c_ keep
             have hl6_ := hc5_.len
             have hN6_ : ((d6.la.length : Nat) : Int) - 2 = (kk : Int) := by omega
             refine zf (ze (hK281 _ _ (yq fun K289 hK289 => (yq fun K290 hK290 => ?_))))
             let J292 : (Nat → Value) → World → Prop := fun r__ w__ => ∃ (od2 : Bool), Has E w__ [sg282, (yP pb30 d6.p), (yo b110 #[va261, vb262] 61), s243, (yR rb23 (runOf (kk : Int) v) db28 sb25 x64), R] ∧ (od2 = false → PstD d6.la) ∧ r__ 0 = (.int .u8 nn) ∧ r__ 1 = v1 ∧ r__ 2 = (.int .u8 aa) ∧ r__ 3 = (yi at_) ∧ r__ 4 = v2 ∧ r__ 5 = (.bool fl) ∧ r__ 6 = v3 ∧ r__ 14 = (.bool false) ∧ r__ 15 = (yp rb23) ∧ r__ 16 = (yi (i : Int)) ∧ r__ 17 = (yp b110) ∧ r__ 18 = (yp sb135) ∧ r__ 19 = (yi (0 : Int)) ∧ r__ 20 = (yi (max (((((opS d3 (kk : Int)).hd).mrk) + ((IntKind.wrap .u64 at_) % 9)) - 4) 0)) ∧ r__ 21 = (yi (((R4.2.2.l.drop (posE R4.2.2.l (-1)).toNat).length : Nat) : Int)) ∧ r__ 22 = (yi (j : Int)) ∧ r__ 23 = v242 ∧ r__ 43 = (.bool false) ∧ r__ 51 = (.bool false) ∧ r__ 55 = (.bool (decide ((i : Int) < ((first.length : Nat) : Int)))) ∧ r__ 102 = (.bool od1) ∧ r__ 116 = (.bool false) ∧ r__ 136 = (.bool (decide ((lastV R4.2.2) ≠ max (((((opS d3 (kk : Int)).hd).mrk) + ((IntKind.wrap .u64 at_) % 9)) - 4) 0))) ∧ r__ 145 = (.bool (decide (0 < (((R4.2.2.l.drop (posE R4.2.2.l ((max (((((opS d3 (kk : Int)).hd).mrk) + ((IntKind.wrap .u64 at_) % 9)) - 4) 0) + 1)).toNat).length : Nat) : Int)))) ∧ r__ 149 = (.bool (decide ((j : Int) < ((second.length : Nat) : Int)))) ∧ r__ 180 = (.bool bb) ∧ r__ 201 = (.bool od2)
             have hJ293 : ∀ r w, J292 r w → K290 (Go.Q.fr 256 r) w := by
              rintro r296 w294 ⟨od2, hH295, hod2, e291_0, e291_1, e291_2, e291_3, e291_4, e291_5, e291_6, e291_14, e291_15, e291_16, e291_17, e291_18, e291_19, e291_20, e291_21, e291_22, e291_23, e291_43, e291_51, e291_55, e291_102, e291_116, e291_136, e291_145, e291_149, e291_180, e291_201⟩
              refine hK290 _ _ (z7 e291_201 (fun h297 => ?_) (fun h297 => ?_))
              ·
               refine yq fun K298 hK298 => (zd (za (zc (.bool true) rfl (zf (ze (hK298 _ _ (wp_ret (zx (zr Tryz.results4  (v := (.bool true)) rfl ?_)))))))))
               have hH299 := (hH295.front 5 rfl).first 1 rfl
               exact ⟨by first | rfl | (rw [decide_eq_true rfl]), hH299⟩
              ·
               have hps6_ : PstD d6.la := hod2 (by simpa using h297)
               refine wp_skip (ze (hK289 _ _ (yq fun K300 hK300 => (zd (za (zb (yp rb23) e291_15 (za (zl rfl (za (zg (k := 0) (fun _ => by kernel_rfl) rfl (za (zj (v := (yp db28)) Tryz.underlying25 rfl rfl hH295 (zh 4 rfl) (CellsAt.one rfl) (za (zk (vs := #[(yp db28)]) ca16 rfl (zI rfl) (sopen_ok (d := d6) ((hH295.front 1 rfl).front 1 rfl).all2 hd288 (by omega) (by omega) hc5_.off hc5_.f64 hc5_.lo (hg.mono (zh 3 rfl)) (show opE d6 (((d6.la.length : Nat) : Int) - 2) = 0 by rw [hN6_]; exact hc5_.op)) ?_))))))))))))))
               rintro _ w309 ⟨sb301, ab302, sg303, ss304, rfl, hd305, hs306, hX307⟩
               refine ⟨_, rfl, ?_⟩
               have hH308 := hX307.of_all4
               have hH310 : Has E w309 [ss304, (yo ab302 #[(yp db28), (yi 2), (yi (kk : Int))] 265), sg303, (yP pb30 d6.p), (yo b110 #[va261, vb262] 61), s243, (yR rb23 (runOf (kk : Int) v) db28 sb25 x64), R] := by have h_ := hH308; rw [hN6_] at h_; exact h_
               have hs311 : StmAt db28 ab302 sb301 ss304 (opS d6 (kk : Int)) := by have h_ := hs306; rw [hN6_] at h_; exact h_
               refine za (zb (.tuple #[(yp sb301), (yi (0 : Int))]) rfl (za (zp (v := (yp sb301)) rfl rfl (za (zp (v := (yi (0 : Int))) rfl rfl (za (zc (yp sb301) rfl (za (zc (yi (0 : Int)) rfl (zf (ze (hK300 _ _ (yq fun K312 hK312 => (zd (za (zb (yp sb301) rfl (za (zk (vs := #[(yp sb301), (yi (-1))]) ca17 rfl (zF rfl rfl) (sentries_c (v := (opS d6 (kk : Int))) (db := db28) (ab := ab302) (g := -1) (n := (kk : Int)) hH310.all (hs311.rd.mono (zh 0 rfl)) (hc5_.ok hkk)) ?_))))))))))))))))))
               rintro _ w318 ⟨v313, s314, rfl, ho315, hX316⟩
               refine ⟨_, rfl, ?_⟩
               have hH317 : Has E w318 [s314, ss304, (yo ab302 #[(yp db28), (yi 2), (yi (kk : Int))] 265), sg303, (yP pb30 d6.p), (yo b110 #[va261, vb262] 61), s243, (yR rb23 (runOf (kk : Int) v) db28 sb25 x64), R] := hX316.of_all1
               refine za (zc v313 rfl (zf (ze (hK312 _ _ (yq fun K319 hK319 => (yq fun K320 hK320 => (zd ?_)))))))
               have hg_ : ((opS d6 (kk : Int)).l.drop (posE (opS d6 (kk : Int)).l (-1)).toNat) = L5 := by rw [ents_neg (hc5_.ok hkk)]; exact hc5_.l
               have hn_ : (w.l.drop (posE w.l (-1)).toNat) = w.l := ents_neg hc4.ok
               have hh_ : (R4.2.2.l.drop (posE R4.2.2.l (-1)).toNat) = R4.2.2.l := ents_neg hc3_.st
               have hgn_ : ∃ new_, (w.l.drop (posE w.l (-1)).toNat) = ((opS d6 (kk : Int)).l.drop (posE (opS d6 (kk : Int)).l (-1)).toNat) ++ new_ := ⟨ex2, by rw [hn_, hg_]; exact hex2_⟩
               have hgl_ := congrArg List.length hg_
               have hnl_ := congrArg List.length hn_
               have hhl_ := congrArg List.length hh_
               have hle1_ := got_le hgn_
               have hle2_ := got_le ⟨ex1, hex1_⟩
               have hwl_ := hc4.ok.le
               refine za (zb (yp sb301) rfl (za (o_pnil (p := some _) Tryz.underlying34 rfl rfl (za (zb (.bool false) rfl (zo 214 rfl rfl (zb (yi (0 : Int)) rfl (zo 214 rfl rfl (o_neq (a := (0 : Int)) (b := 0) rfl rfl (za (zm (u := (.bool false)) rfl rfl (za (zb (.bool false) rfl (zo 218 rfl rfl (zb v313 rfl (zo 218 rfl rfl (zQ Tryz.underlying37 rfl ho315.sl (zo 218 rfl rfl (zb (yi (((R4.2.2.l.drop (posE R4.2.2.l (-1)).toNat).length : Nat) : Int)) e291_21 (zo 218 rfl rfl (zL (a := ((((opS d6 (kk : Int)).l.drop (posE (opS d6 (kk : Int)).l (-1)).toNat).length : Nat) : Int)) (b := (((R4.2.2.l.drop (posE R4.2.2.l (-1)).toNat).length : Nat) : Int)) rfl rfl (za (zm (u := (.bool (decide (((((opS d6 (kk : Int)).l.drop (posE (opS d6 (kk : Int)).l (-1)).toNat).length : Nat) : Int) < (((R4.2.2.l.drop (posE R4.2.2.l (-1)).toNat).length : Nat) : Int))))) rfl rfl (za (zb (.bool (decide (((((opS d6 (kk : Int)).l.drop (posE (opS d6 (kk : Int)).l (-1)).toNat).length : Nat) : Int) < (((R4.2.2.l.drop (posE R4.2.2.l (-1)).toNat).length : Nat) : Int)))) rfl ?_)))))))))))))))))))))))))
               by_cases h321 : ((((opS d6 (kk : Int)).l.drop (posE (opS d6 (kk : Int)).l (-1)).toNat).length : Nat) : Int) < (((R4.2.2.l.drop (posE R4.2.2.l (-1)).toNat).length : Nat) : Int)
               ·
                exfalso; omega
               ·
                refine zo 224 rfl (cF h321) (zb v313 rfl (zo 224 rfl (cF h321) (zQ Tryz.underlying37 rfl ho315.sl (zo 224 rfl (cF h321) (zb v242 e291_23 (zo 224 rfl (cF h321) (zQ Tryz.underlying37 rfl ho244.sl (zo 224 rfl (cF h321) (o_gtr (a := ((((opS d6 (kk : Int)).l.drop (posE (opS d6 (kk : Int)).l (-1)).toNat).length : Nat) : Int)) (b := (((w.l.drop (posE w.l (-1)).toNat).length : Nat) : Int)) rfl rfl (za (zm (u := (.bool (decide ((((w.l.drop (posE w.l (-1)).toNat).length : Nat) : Int) < ((((opS d6 (kk : Int)).l.drop (posE (opS d6 (kk : Int)).l (-1)).toNat).length : Nat) : Int))))) ((rfl : _ = _).trans (cF h321)) rfl (za (zb (.bool (decide ((((w.l.drop (posE w.l (-1)).toNat).length : Nat) : Int) < ((((opS d6 (kk : Int)).l.drop (posE (opS d6 (kk : Int)).l (-1)).toNat).length : Nat) : Int)))) rfl ?_)))))))))))))
                by_cases h322 : (((w.l.drop (posE w.l (-1)).toNat).length : Nat) : Int) < ((((opS d6 (kk : Int)).l.drop (posE (opS d6 (kk : Int)).l (-1)).toNat).length : Nat) : Int)
                ·
                 exfalso; omega
                ·
                 refine zo 231 rfl (cF h322) (zb (.bool fl) e291_5 (zo 231 rfl (cF h322) (zb (.bool fl) rfl ?_)))
                 rcases Bool.eq_false_or_eq_true fl with h323 | h323
                 ·
                  refine zo 233 rfl (congrArg Value.bool h323) (zb v313 rfl (zo 233 rfl (congrArg Value.bool h323) (zQ Tryz.underlying37 rfl ho315.sl (zo 233 rfl (congrArg Value.bool h323) (zb v242 e291_23 (zo 233 rfl (congrArg Value.bool h323) (zQ Tryz.underlying37 rfl ho244.sl (zo 233 rfl (congrArg Value.bool h323) (o_neq (a := ((((opS d6 (kk : Int)).l.drop (posE (opS d6 (kk : Int)).l (-1)).toNat).length : Nat) : Int)) (b := (((w.l.drop (posE w.l (-1)).toNat).length : Nat) : Int)) rfl rfl (zo 231 rfl (cF h322) (zq (u := (.bool (decide (((((opS d6 (kk : Int)).l.drop (posE (opS d6 (kk : Int)).l (-1)).toNat).length : Nat) : Int) ≠ (((w.l.drop (posE w.l (-1)).toNat).length : Nat) : Int))))) ((rfl : _ = _).trans (congrArg Value.bool h323)) rfl (za (zm (u := (.bool (decide (((((opS d6 (kk : Int)).l.drop (posE (opS d6 (kk : Int)).l (-1)).toNat).length : Nat) : Int) ≠ (((w.l.drop (posE w.l (-1)).toNat).length : Nat) : Int))))) ((rfl : _ = _).trans (cF h322)) rfl (zf (ze (hK320 _ _ (zt rfl (fun h324 => ?_) (fun h324 => ?_))))))))))))))))))
                  ·
                   exact absurd (by rw [hg_, hn_, hex3_ h323]) h324
                  ·
                   refine wp_skip (ze (hK319 _ _ (yq fun K325 hK325 => (yq fun K326 hK326 => (zd (za (zc (yi 0) rfl (zf (ze (hK326 _ _ (wp_block ?_)))))))))))
                   let I328 : Nat → (Nat → Value) → World → Prop := fun n__ r__ w__ => ∃ (m : Nat), n__ = ((opS d6 (kk : Int)).l.drop (posE (opS d6 (kk : Int)).l (-1)).toNat).length - m ∧ Has E w__ [s314, ss304, (yo ab302 #[(yp db28), (yi 2), (yi (kk : Int))] 265), sg303, (yP pb30 d6.p), (yo b110 #[va261, vb262] 61), s243, (yR rb23 (runOf (kk : Int) v) db28 sb25 x64), R] ∧ (m ≤ ((opS d6 (kk : Int)).l.drop (posE (opS d6 (kk : Int)).l (-1)).toNat).length) ∧ r__ 0 = (.int .u8 nn) ∧ r__ 1 = v1 ∧ r__ 2 = (.int .u8 aa) ∧ r__ 3 = (yi at_) ∧ r__ 4 = v2 ∧ r__ 5 = (.bool fl) ∧ r__ 6 = v3 ∧ r__ 15 = (yp rb23) ∧ r__ 16 = (yi (i : Int)) ∧ r__ 17 = (yp b110) ∧ r__ 18 = (yp sb135) ∧ r__ 19 = (yi (0 : Int)) ∧ r__ 20 = (yi (max (((((opS d3 (kk : Int)).hd).mrk) + ((IntKind.wrap .u64 at_) % 9)) - 4) 0)) ∧ r__ 21 = (yi (((R4.2.2.l.drop (posE R4.2.2.l (-1)).toNat).length : Nat) : Int)) ∧ r__ 22 = (yi (j : Int)) ∧ r__ 23 = v242 ∧ r__ 24 = (yp sb301) ∧ r__ 25 = v313 ∧ r__ 26 = (yi (m : Int)) ∧ r__ 43 = (.bool false) ∧ r__ 51 = (.bool false) ∧ r__ 55 = (.bool (decide ((i : Int) < ((first.length : Nat) : Int)))) ∧ r__ 102 = (.bool od1) ∧ r__ 116 = (.bool false) ∧ r__ 136 = (.bool (decide ((lastV R4.2.2) ≠ max (((((opS d3 (kk : Int)).hd).mrk) + ((IntKind.wrap .u64 at_) % 9)) - 4) 0))) ∧ r__ 145 = (.bool (decide (0 < (((R4.2.2.l.drop (posE R4.2.2.l ((max (((((opS d3 (kk : Int)).hd).mrk) + ((IntKind.wrap .u64 at_) % 9)) - 4) 0) + 1)).toNat).length : Nat) : Int)))) ∧ r__ 149 = (.bool (decide ((j : Int) < ((second.length : Nat) : Int)))) ∧ r__ 180 = (.bool bb) ∧ r__ 201 = (.bool od2) ∧ r__ 240 = (.bool (decide (((((opS d6 (kk : Int)).l.drop (posE (opS d6 (kk : Int)).l (-1)).toNat).length : Nat) : Int) ≠ (((w.l.drop (posE w.l (-1)).toNat).length : Nat) : Int))))
                   refine zX I328 _ ⟨0, rfl, hH317, Nat.zero_le _, e291_0, e291_1, e291_2, e291_3, e291_4, e291_5, e291_6, e291_15, e291_16, e291_17, e291_18, rfl, e291_20, e291_21, e291_22, e291_23, rfl, rfl, rfl, e291_43, e291_51, e291_55, e291_102, e291_116, e291_136, e291_145, e291_149, e291_180, e291_201, rfl⟩ ?_
                   rintro n_ r331 w329 ⟨m, rfl, hH330, hm, e327_0, e327_1, e327_2, e327_3, e327_4, e327_5, e327_6, e327_15, e327_16, e327_17, e327_18, e327_19, e327_20, e327_21, e327_22, e327_23, e327_24, e327_25, e327_26, e327_43, e327_51, e327_55, e327_102, e327_116, e327_136, e327_145, e327_149, e327_180, e327_201, e327_240⟩
                   refine yq fun K332 hK332 => (yq fun K333 hK333 => (zd (za (zb (yi (m : Int)) e327_26 (za (zb v313 e327_25 (za (zQ Tryz.underlying37 rfl ho315.sl (za (zL (a := (m : Int)) (b := ((((opS d6 (kk : Int)).l.drop (posE (opS d6 (kk : Int)).l (-1)).toNat).length : Nat) : Int)) rfl rfl (zf (ze (hK333 _ _ (zt rfl (fun h334 => ?_) (fun h334 => ?_)))))))))))))))
                   ·
                    refine wp_skip (ze (hK332 _ _ (yq fun K335 hK335 => (wp_block (yq fun K336 hK336 => (Rest.region mixed (by kernel_rfl) ?_))))))
                    have hH337 : Has E { w329 with drawn := w329.drawn + 1 } [s314, ss304, (yo ab302 #[(yp db28), (yi 2), (yi (kk : Int))] 265), sg303, (yP pb30 d6.p), (yo b110 #[va261, vb262] 61), s243, (yR rb23 (runOf (kk : Int) v) db28 sb25 x64), R] := Has0.drew hH330 _
                    refine Rest.phaseA (fun w_ => Has E w_ [s314, s243]) 0 8 8 rfl (by decide) (by kernel_rfl) (zn 0 rfl (by kernel_rfl) (fun w_ h_ => zb v313 e327_25 ⟨rfl, rfl⟩) (zn 1 rfl (by kernel_rfl) (fun w_ h_ => zb (yi (m : Int)) e327_26 ⟨rfl, rfl⟩) ?_))
                    obtain ⟨x341, hx342⟩ : ∃ x_, ((opS d6 (kk : Int)).l.drop (posE (opS d6 (kk : Int)).l (-1)).toNat)[((m : Int)).toNat]? = some x_ := zN (by omega)
                    obtain ⟨b338, o339, hc340, ho343⟩ := ix_exF enC_len Tryz.underlying37 ti42 ho315.sl (by omega) hx342
                    refine zn 2 rfl (by kernel_rfl) (fun w_ h_ => ho343 rfl rfl ⟨rfl, rfl⟩) (zn 3 rfl (by kernel_rfl) (fun w_ h_ => zG (cs := [(yi x341.gsn), (yi x341.at_), (S x341.data)]) Tryz.underlying42 rfl ti42 rfl h_ (zh 0 rfl) hc340 ⟨rfl, rfl⟩) (zn 4 rfl (by kernel_rfl) (fun w_ h_ => zb v242 e327_23 ⟨rfl, rfl⟩) (zn 5 rfl (by kernel_rfl) (fun w_ h_ => zb (yi (m : Int)) e327_26 ⟨rfl, rfl⟩) ?_)))
                    obtain ⟨x347, hx348⟩ : ∃ x_, (w.l.drop (posE w.l (-1)).toNat)[((m : Int)).toNat]? = some x_ := zN (by omega)
                    obtain ⟨b344, o345, hc346, ho349⟩ := ix_exF enC_len Tryz.underlying37 ti42 ho244.sl (by omega) hx348
                    refine zn 6 rfl (by kernel_rfl) (fun w_ h_ => ho349 rfl rfl ⟨rfl, rfl⟩) (zn 7 rfl (by kernel_rfl) (fun w_ h_ => zG (cs := [(yi x347.gsn), (yi x347.at_), (S x347.data)]) Tryz.underlying42 rfl ti42 rfl h_ (zh 1 rfl) hc346 ⟨rfl, rfl⟩) ?_)
                    have hH350 := ((hH337.front 6 rfl).front 1 rfl).first 2 rfl
                    refine zM (by kernel_rfl) hH350 (zO 8 rfl (by kernel_rfl) (o_neq42 x341.gsn x341.at_ x341.data x347.gsn x347.at_ x347.data rfl rfl (Rest.done (by kernel_rfl) (ze (hK336 _ _ (z7 rfl (fun h351 => ?_) (fun h351 => ?_)))))))
                    ·
                     have h351_n : (eqv42 x341.gsn x341.at_ x341.data x347.gsn x347.at_ x347.data) = false := by first | simpa using h351 | exact Bool.of_not_eq_true (fun g_ => by rw [g_] at h351; cases h351)
                     exact absurd h351 (by have e_ := got_now hgn_ (show _[(m : Int).toNat]? = some _ from hx342) (show _[(m : Int).toNat]? = some _ from hx348); rw [e_]; rw [show (eqv42 x347.gsn x347.at_ x347.data x347.gsn x347.at_ x347.data) = true from (eqv42_iff _ _ _ _ _ _).2 ⟨rfl, rfl, rfl⟩]; decide)
                    ·
                     have h351_n : (eqv42 x341.gsn x341.at_ x341.data x347.gsn x347.at_ x347.data) = true := by first | simpa using h351 | exact Bool.of_not_eq_false (fun g_ => by rw [g_] at h351; cases h351)
                     refine wp_skip (zC (ze (hK335 _ _ (zd (za (zb (yi (m : Int)) e327_26 (za (zD (a := (m : Int)) (b := 1) rfl rfl (w64 (by omega) (by omega)) (za (zc (yi ((m : Int) + 1)) rfl (zf (ze ⟨((opS d6 (kk : Int)).l.drop (posE (opS d6 (kk : Int)).l (-1)).toNat).length - (m + 1), _, rfl, ?_, ?_⟩))))))))))))
                     · omega
                     · exact ⟨(m + 1), rfl, hH337, (by omega), e327_0, e327_1, e327_2, e327_3, e327_4, e327_5, e327_6, e327_15, e327_16, e327_17, e327_18, e327_19, e327_20, e327_21, e327_22, e327_23, e327_24, e327_25, rfl, e327_43, e327_51, e327_55, e327_102, e327_116, e327_136, e327_145, e327_149, e327_180, e327_201, e327_240⟩
                   ·
                    refine wp_exit (zy (zy (x_in ((ze (hK325 _ _ (yq fun K352 hK352 => (zd (za (zc (.bool true) rfl (zf (ze (hK352 _ _ (wp_ret (zr Tryz.results4  (v := (.bool true)) rfl ?_)))))))))))))))
                    have hH353 := (hH330.front 8 rfl).first 1 rfl
                    exact ⟨by first | rfl | (rw [decide_eq_true rfl]), hH353⟩
                 ·
                  refine zi (b' := false) 233 rfl (congrArg Value.bool h323) rfl (zi (b' := false) 233 rfl (congrArg Value.bool h323) rfl (zi (b' := false) 233 rfl (congrArg Value.bool h323) rfl (zi (b' := false) 233 rfl (congrArg Value.bool h323) rfl (zi (b' := false) 233 rfl (congrArg Value.bool h323) rfl (zo 231 rfl (cF h322) (zm (u := (.bool false)) ((rfl : _ = _).trans (congrArg Value.bool h323)) rfl (za (zm (u := (.bool false)) ((rfl : _ = _).trans (cF h322)) rfl (zf (ze (hK320 _ _ (zK rfl rfl (wp_skip (ze (hK319 _ _ (yq fun K354 hK354 => (yq fun K355 hK355 => (zd ?_))))))))))))))))))
                  refine za (zc (yi 0) rfl (zf (ze (hK355 _ _ (wp_block ?_)))))
                  let I357 : Nat → (Nat → Value) → World → Prop := fun n__ r__ w__ => ∃ (m : Nat), n__ = ((opS d6 (kk : Int)).l.drop (posE (opS d6 (kk : Int)).l (-1)).toNat).length - m ∧ Has E w__ [s314, ss304, (yo ab302 #[(yp db28), (yi 2), (yi (kk : Int))] 265), sg303, (yP pb30 d6.p), (yo b110 #[va261, vb262] 61), s243, (yR rb23 (runOf (kk : Int) v) db28 sb25 x64), R] ∧ (m ≤ ((opS d6 (kk : Int)).l.drop (posE (opS d6 (kk : Int)).l (-1)).toNat).length) ∧ r__ 0 = (.int .u8 nn) ∧ r__ 1 = v1 ∧ r__ 2 = (.int .u8 aa) ∧ r__ 3 = (yi at_) ∧ r__ 4 = v2 ∧ r__ 5 = (.bool fl) ∧ r__ 6 = v3 ∧ r__ 15 = (yp rb23) ∧ r__ 16 = (yi (i : Int)) ∧ r__ 17 = (yp b110) ∧ r__ 18 = (yp sb135) ∧ r__ 19 = (yi (0 : Int)) ∧ r__ 20 = (yi (max (((((opS d3 (kk : Int)).hd).mrk) + ((IntKind.wrap .u64 at_) % 9)) - 4) 0)) ∧ r__ 21 = (yi (((R4.2.2.l.drop (posE R4.2.2.l (-1)).toNat).length : Nat) : Int)) ∧ r__ 22 = (yi (j : Int)) ∧ r__ 23 = v242 ∧ r__ 24 = (yp sb301) ∧ r__ 25 = v313 ∧ r__ 26 = (yi (m : Int)) ∧ r__ 43 = (.bool false) ∧ r__ 51 = (.bool false) ∧ r__ 55 = (.bool (decide ((i : Int) < ((first.length : Nat) : Int)))) ∧ r__ 102 = (.bool od1) ∧ r__ 116 = (.bool false) ∧ r__ 136 = (.bool (decide ((lastV R4.2.2) ≠ max (((((opS d3 (kk : Int)).hd).mrk) + ((IntKind.wrap .u64 at_) % 9)) - 4) 0))) ∧ r__ 145 = (.bool (decide (0 < (((R4.2.2.l.drop (posE R4.2.2.l ((max (((((opS d3 (kk : Int)).hd).mrk) + ((IntKind.wrap .u64 at_) % 9)) - 4) 0) + 1)).toNat).length : Nat) : Int)))) ∧ r__ 149 = (.bool (decide ((j : Int) < ((second.length : Nat) : Int)))) ∧ r__ 180 = (.bool bb) ∧ r__ 201 = (.bool od2) ∧ r__ 240 = (.bool false)
                  refine zX I357 _ ⟨0, rfl, hH317, Nat.zero_le _, e291_0, e291_1, e291_2, e291_3, e291_4, e291_5, e291_6, e291_15, e291_16, e291_17, e291_18, rfl, e291_20, e291_21, e291_22, e291_23, rfl, rfl, rfl, e291_43, e291_51, e291_55, e291_102, e291_116, e291_136, e291_145, e291_149, e291_180, e291_201, rfl⟩ ?_
                  rintro n_ r360 w358 ⟨m, rfl, hH359, hm, e356_0, e356_1, e356_2, e356_3, e356_4, e356_5, e356_6, e356_15, e356_16, e356_17, e356_18, e356_19, e356_20, e356_21, e356_22, e356_23, e356_24, e356_25, e356_26, e356_43, e356_51, e356_55, e356_102, e356_116, e356_136, e356_145, e356_149, e356_180, e356_201, e356_240⟩
                  refine yq fun K361 hK361 => (yq fun K362 hK362 => (zd (za (zb (yi (m : Int)) e356_26 (za (zb v313 e356_25 (za (zQ Tryz.underlying37 rfl ho315.sl (za (zL (a := (m : Int)) (b := ((((opS d6 (kk : Int)).l.drop (posE (opS d6 (kk : Int)).l (-1)).toNat).length : Nat) : Int)) rfl rfl (zf (ze (hK362 _ _ (zt rfl (fun h363 => ?_) (fun h363 => ?_)))))))))))))))
                  ·
                   refine wp_skip (ze (hK361 _ _ (yq fun K364 hK364 => (wp_block (yq fun K365 hK365 => (Rest.region mixed (by kernel_rfl) ?_))))))
                   have hH366 : Has E { w358 with drawn := w358.drawn + 1 } [s314, ss304, (yo ab302 #[(yp db28), (yi 2), (yi (kk : Int))] 265), sg303, (yP pb30 d6.p), (yo b110 #[va261, vb262] 61), s243, (yR rb23 (runOf (kk : Int) v) db28 sb25 x64), R] := Has0.drew hH359 _
                   refine Rest.phaseA (fun w_ => Has E w_ [s314, s243]) 0 8 8 rfl (by decide) (by kernel_rfl) (zn 0 rfl (by kernel_rfl) (fun w_ h_ => zb v313 e356_25 ⟨rfl, rfl⟩) (zn 1 rfl (by kernel_rfl) (fun w_ h_ => zb (yi (m : Int)) e356_26 ⟨rfl, rfl⟩) ?_))
                   obtain ⟨x370, hx371⟩ : ∃ x_, ((opS d6 (kk : Int)).l.drop (posE (opS d6 (kk : Int)).l (-1)).toNat)[((m : Int)).toNat]? = some x_ := zN (by omega)
                   obtain ⟨b367, o368, hc369, ho372⟩ := ix_exF enC_len Tryz.underlying37 ti42 ho315.sl (by omega) hx371
                   refine zn 2 rfl (by kernel_rfl) (fun w_ h_ => ho372 rfl rfl ⟨rfl, rfl⟩) (zn 3 rfl (by kernel_rfl) (fun w_ h_ => zG (cs := [(yi x370.gsn), (yi x370.at_), (S x370.data)]) Tryz.underlying42 rfl ti42 rfl h_ (zh 0 rfl) hc369 ⟨rfl, rfl⟩) (zn 4 rfl (by kernel_rfl) (fun w_ h_ => zb v242 e356_23 ⟨rfl, rfl⟩) (zn 5 rfl (by kernel_rfl) (fun w_ h_ => zb (yi (m : Int)) e356_26 ⟨rfl, rfl⟩) ?_)))
                   obtain ⟨x376, hx377⟩ : ∃ x_, (w.l.drop (posE w.l (-1)).toNat)[((m : Int)).toNat]? = some x_ := zN (by omega)
                   obtain ⟨b373, o374, hc375, ho378⟩ := ix_exF enC_len Tryz.underlying37 ti42 ho244.sl (by omega) hx377
                   refine zn 6 rfl (by kernel_rfl) (fun w_ h_ => ho378 rfl rfl ⟨rfl, rfl⟩) (zn 7 rfl (by kernel_rfl) (fun w_ h_ => zG (cs := [(yi x376.gsn), (yi x376.at_), (S x376.data)]) Tryz.underlying42 rfl ti42 rfl h_ (zh 1 rfl) hc375 ⟨rfl, rfl⟩) ?_)
                   have hH379 := ((hH366.front 6 rfl).front 1 rfl).first 2 rfl
                   refine zM (by kernel_rfl) hH379 (zO 8 rfl (by kernel_rfl) (o_neq42 x370.gsn x370.at_ x370.data x376.gsn x376.at_ x376.data rfl rfl (Rest.done (by kernel_rfl) (ze (hK365 _ _ (z7 rfl (fun h380 => ?_) (fun h380 => ?_)))))))
                   ·
                    have h380_n : (eqv42 x370.gsn x370.at_ x370.data x376.gsn x376.at_ x376.data) = false := by first | simpa using h380 | exact Bool.of_not_eq_true (fun g_ => by rw [g_] at h380; cases h380)
                    exact absurd h380 (by have e_ := got_now hgn_ (show _[(m : Int).toNat]? = some _ from hx371) (show _[(m : Int).toNat]? = some _ from hx377); rw [e_]; rw [show (eqv42 x376.gsn x376.at_ x376.data x376.gsn x376.at_ x376.data) = true from (eqv42_iff _ _ _ _ _ _).2 ⟨rfl, rfl, rfl⟩]; decide)
                   ·
                    have h380_n : (eqv42 x370.gsn x370.at_ x370.data x376.gsn x376.at_ x376.data) = true := by first | simpa using h380 | exact Bool.of_not_eq_false (fun g_ => by rw [g_] at h380; cases h380)
                    refine wp_skip (zC (ze (hK364 _ _ (zd (za (zb (yi (m : Int)) e356_26 (za (zD (a := (m : Int)) (b := 1) rfl rfl (w64 (by omega) (by omega)) (za (zc (yi ((m : Int) + 1)) rfl (zf (ze ⟨((opS d6 (kk : Int)).l.drop (posE (opS d6 (kk : Int)).l (-1)).toNat).length - (m + 1), _, rfl, ?_, ?_⟩))))))))))))
                    · omega
                    · exact ⟨(m + 1), rfl, hH366, (by omega), e356_0, e356_1, e356_2, e356_3, e356_4, e356_5, e356_6, e356_15, e356_16, e356_17, e356_18, e356_19, e356_20, e356_21, e356_22, e356_23, e356_24, e356_25, rfl, e356_43, e356_51, e356_55, e356_102, e356_116, e356_136, e356_145, e356_149, e356_180, e356_201, e356_240⟩
                  ·
                   refine wp_exit (zy (zy (x_in ((ze (hK354 _ _ (yq fun K381 hK381 => (zd (za (zc (.bool true) rfl (zf (ze (hK381 _ _ (wp_ret (zr Tryz.results4  (v := (.bool true)) rfl ?_)))))))))))))))
                   have hH382 := (hH359.front 8 rfl).first 1 rfl
                   exact ⟨by first | rfl | (rw [decide_eq_true rfl]), hH382⟩
             refine Rest.region mixed (by kernel_rfl) ?_
             have hH383 : Has E { w286 with drawn := w286.drawn + 1 } [sg282, (yP pb30 d6.p), (yo b110 #[va261, vb262] 61), s267, s268, s269, s270, (yo b258 #[(yp db28)] 25), s243, (yR rb23 (runOf (kk : Int) v) db28 sb25 x64), R] := Has0.drew hH287 _
             refine Rest.phaseA (fun w_ => Has E w_ [(yo b110 #[va261, vb262] 61), (yR rb23 (runOf (kk : Int) v) db28 sb25 x64)]) 0 8 8 rfl (by decide) (by kernel_rfl) (zn 0 rfl (by kernel_rfl) (fun w_ h_ => zG (cs := [va261, vb262]) Tryz.underlying61 rfl ti61 e250_17 h_ (zh 0 rfl) (CellsAt.one rfl) ⟨rfl, rfl⟩) (zn 1 rfl (by kernel_rfl) (fun w_ h_ => zb v3 e250_6 ⟨rfl, rfl⟩) (zn 3 rfl (by kernel_rfl) (fun w_ h_ => zb (yp rb23) e250_15 ⟨rfl, rfl⟩) (zn 4 rfl (by kernel_rfl) (fun w_ h_ => zl rfl ⟨rfl, rfl⟩) (zn 5 rfl (by kernel_rfl) (fun w_ h_ => zg (k := 0) (fun _ => by kernel_rfl) rfl ⟨rfl, rfl⟩) (zn 6 rfl (by kernel_rfl) (fun w_ h_ => zj (v := (yp db28)) Tryz.underlying25 rfl rfl h_ (zh 1 rfl) (CellsAt.one rfl) ⟨rfl, rfl⟩) ?_))))))
             have hH384 := ((hH383.front 9 rfl).front 3 rfl).first 2 rfl
             refine a_two 2 7 (by kernel_rfl) hH384 ?_ ?_
             ·
              have hH385 : Has E { w286 with drawn := w286.drawn + 1 } [(yo b110 #[va261, vb262] 61), (yR rb23 (runOf (kk : Int) v) db28 sb25 x64)] := ((hH383.front 9 rfl).front 3 rfl).first 2 rfl
              refine ok_w 2 rfl (zw (ps := #[(0, v3)]) (cells := #[v3]) Tryz.underlying59 ti47 (by decide) (yb rfl) (fill_one1 hkp.one rfl) hH383 fun b386 w387 hH388 => ?_)
              have hH389 := ((hH388.front 10 rfl).front 4 rfl).first 2 rfl
              refine a_w 7 rfl (by kernel_rfl) hH389 (zw (ps := #[(0, (yp db28))]) (cells := #[(yp db28)]) Tryz.underlying74 ti25 (by decide) (yb rfl) (by kernel_rfl) hH388 fun b390 w391 hH392 => ?_)
              have hH393 := ((hH392.front 11 rfl).front 5 rfl).first 2 rfl
              refine zM (by kernel_rfl) hH393 (zO 8 rfl (by kernel_rfl) (zk (vs := #[(.agg #[va261, vb262]), (.slice (some ⟨b386, 0, none⟩) 1 1), (.slice (some ⟨b390, 0, none⟩) 1 1)]) ca27 rfl (args3 rfl rfl rfl) (odd8_c (d := d6) ((hH392.front 3 rfl).front 3 rfl).all2 hd288 (by omega) hc5_.f64 (by omega) (vd := (.slice (some ⟨b390, 0, none⟩) 1 1)) ((zW (f := ptC) (l := [db28]) (g := (0, 0)) (T := 25) rfl rfl (by simp)).mono (zh 0 rfl)) (va := va261) (vb := vb262) (ho271.sl.mono (zh 3 rfl)) (ho272.sl.mono (zh 4 rfl)) (ho273.sl.mono (zh 5 rfl)) (ho274.sl.mono (zh 6 rfl)) (vk := (.slice (some ⟨b386, 0, none⟩) 1 1)) ((zW (f := rvC) (l := [(RowV.mk v3 keep)]) (g := (0, 0)) (T := 47) rfl rfl (by simp)).mono (zh 1 rfl)) (hkp.mono (zh 10 rfl))) ?_))
              rintro _ w398 ⟨od394, rfl, hod395, hX396⟩
              refine ⟨_, rfl, ?_⟩
              have hH397 := hX396.of_all2
              refine Rest.done (by kernel_rfl) ?_
              have hH399 : Has E w398 [sg282, (yP pb30 d6.p), (yo b110 #[va261, vb262] 61), s243, (yR rb23 (runOf (kk : Int) v) db28 sb25 x64), R] := Has.pick hH397 [0, 0, 2, 7, 7, 7] (by kernel_rfl)
              refine ze (hJ293 _ _ ⟨od394, hH399, (hod395), e250_0, e250_1, e250_2, e250_3, e250_4, e250_5, e250_6, e250_14, e250_15, e250_16, e250_17, e250_18, e250_19, e250_20, e250_21, e250_22, e250_23, e250_43, e250_51, e250_55, e250_102, e250_116, e250_136, e250_145, e250_149, e250_180, rfl⟩)
             ·
              have hH400 : Has E { w286 with drawn := w286.drawn + 1 } [(yo b110 #[va261, vb262] 61), (yR rb23 (runOf (kk : Int) v) db28 sb25 x64)] := ((hH383.front 9 rfl).front 3 rfl).first 2 rfl
              refine ok_w 7 rfl (zw (ps := #[(0, (yp db28))]) (cells := #[(yp db28)]) Tryz.underlying74 ti25 (by decide) (yb rfl) (by kernel_rfl) hH383 fun b401 w402 hH403 => ?_)
              have hH404 := ((hH403.front 10 rfl).front 4 rfl).first 2 rfl
              refine a_w 2 rfl (by kernel_rfl) hH404 (zw (ps := #[(0, v3)]) (cells := #[v3]) Tryz.underlying59 ti47 (by decide) (yb rfl) (fill_one1 hkp.one rfl) hH403 fun b405 w406 hH407 => ?_)
              have hH408 := ((hH407.front 11 rfl).front 5 rfl).first 2 rfl
              refine zM (by kernel_rfl) hH408 (zO 8 rfl (by kernel_rfl) (zk (vs := #[(.agg #[va261, vb262]), (.slice (some ⟨b405, 0, none⟩) 1 1), (.slice (some ⟨b401, 0, none⟩) 1 1)]) ca27 rfl (args3 rfl rfl rfl) (odd8_c (d := d6) ((hH407.front 3 rfl).front 3 rfl).all2 hd288 (by omega) hc5_.f64 (by omega) (vd := (.slice (some ⟨b401, 0, none⟩) 1 1)) ((zW (f := ptC) (l := [db28]) (g := (0, 0)) (T := 25) rfl rfl (by simp)).mono (zh 1 rfl)) (va := va261) (vb := vb262) (ho271.sl.mono (zh 3 rfl)) (ho272.sl.mono (zh 4 rfl)) (ho273.sl.mono (zh 5 rfl)) (ho274.sl.mono (zh 6 rfl)) (vk := (.slice (some ⟨b405, 0, none⟩) 1 1)) ((zW (f := rvC) (l := [(RowV.mk v3 keep)]) (g := (0, 0)) (T := 47) rfl rfl (by simp)).mono (zh 0 rfl)) (hkp.mono (zh 10 rfl))) ?_))
              rintro _ w413 ⟨od409, rfl, hod410, hX411⟩
              refine ⟨_, rfl, ?_⟩
              have hH412 := hX411.of_all2
              refine Rest.done (by kernel_rfl) ?_
              have hH414 : Has E w413 [sg282, (yP pb30 d6.p), (yo b110 #[va261, vb262] 61), s243, (yR rb23 (runOf (kk : Int) v) db28 sb25 x64), R] := Has.pick hH412 [0, 0, 2, 7, 7, 7] (by kernel_rfl)
              refine ze (hJ293 _ _ ⟨od409, hH414, (hod410), e250_0, e250_1, e250_2, e250_3, e250_4, e250_5, e250_6, e250_14, e250_15, e250_16, e250_17, e250_18, e250_19, e250_20, e250_21, e250_22, e250_23, e250_43, e250_51, e250_55, e250_102, e250_116, e250_136, e250_145, e250_149, e250_180, rfl⟩)
           refine zd (za (zb (.bool fl) e188_5 (za (zb (.bool fl) rfl ?_))))
           rcases Bool.eq_false_or_eq_true fl with h415 | h415
           ·
            refine zo 174 rfl (congrArg Value.bool h415) (zb (yp sb135) e188_18 (zo 174 rfl (congrArg Value.bool h415) (zb (yp sb135) e188_18 (zo 174 rfl (congrArg Value.bool h415) (zk (vs := #[(yp sb135)]) ca29 rfl (zI rfl) (slast_c (v := w) (db := db28) (ab := ab136) (n := (kk : Int)) hH246.all (hs5.rd.mono (zh 1 rfl)) hc4.ok) ?_)))))
            rintro _ w418 ⟨rfl, hX416⟩
            refine ⟨_, rfl, ?_⟩
            have hH417 := hX416.of_all
            refine zo 174 rfl (congrArg Value.bool h415) (zk (vs := #[(yp sb135), (yi (lastV w))]) ca23 rfl (zF rfl rfl) (sflush_c (d := R4.2.1) (v := w) (n := (kk : Int)) ((((hH417.front 1 rfl).front 6 rfl).front 6 rfl).front 6 rfl).all4 hd164 hs5 R4f_ (by omega) R4k_ (by omega) hc3_.f64 (by omega) hc4.ok (hg.mono (zh 5 rfl)) (mark := (lastV w))) ?_)
            rintro _ w425 ⟨sg419, ss421, rfl, hd420, hs422, hX423⟩
            refine ⟨_, rfl, ?_⟩
            have hH424 := hX423.of_all4
            refine zo 174 rfl (congrArg Value.bool h415) (o_neq (a := (flS (kk : Int) R4.2.1 w (lastV w)).1) (b := 0) rfl rfl (za (zq (u := (.bool (decide ((flS (kk : Int) R4.2.1 w (lastV w)).1 ≠ 0)))) ((rfl : _ = _).trans (congrArg Value.bool h415)) rfl (zf ?_))))
            have hH426 : Has E w425 [s243, sg419, (yP pb30 ((flS (kk : Int) R4.2.1 w (lastV w)).2.1).p), (yo b110 #[va92, vb93] 61), (yR rb23 (runOf (kk : Int) v) db28 sb25 x64), R] := Has.pick hH424 [4, 0, 0, 4, 4, 4] (by kernel_rfl)
            refine ze (hJ252 _ _ ⟨((flS (kk : Int) R4.2.1 w (lastV w)).2.1), sg419, (decide ((flS (kk : Int) R4.2.1 w (lastV w)).1 ≠ 0)), hH426, (hd420), ((few_flS R4f_ (by omega) _).mono (by omega)), ((flS_lo R4k_ _)), (by rw [flS_len]; exact hc3_.len), (full_flS R4k_ hc3_.f64 _), (decide_eq_false (fun g_ => g_ (hc3_.flush hc2_ hps3_ hc4 keep).1)), (⟨w.l, fun k_ => (hc3_.flush hc2_ hps3_ hc4 k_).2, hc4.grw.l, ⟨[], (List.append_nil _).symm⟩, fun _ => rfl⟩), e188_0, e188_1, e188_2, e188_3, e188_4, e188_5, e188_6, e188_14, e188_15, e188_16, e188_17, e188_18, e188_19, e188_20, e188_21, e188_22, rfl, e188_43, e188_51, e188_55, e188_102, e188_116, e188_136, e188_145, rfl, rfl⟩)
           ·
            refine zi (b' := false) 174 rfl (congrArg Value.bool h415) rfl (zi (b' := false) 174 rfl (congrArg Value.bool h415) rfl (zi (b' := false) 174 rfl (congrArg Value.bool h415) rfl (zi (b' := false) 174 rfl (congrArg Value.bool h415) rfl (zi (b' := false) 174 rfl (congrArg Value.bool h415) rfl (za (zm (u := (.bool false)) ((rfl : _ = _).trans (congrArg Value.bool h415)) rfl (zf ?_)))))))
            have hH427 : Has E w247 [s243, sg155, (yP pb30 R4.2.1.p), (yo b110 #[va92, vb93] 61), (yR rb23 (runOf (kk : Int) v) db28 sb25 x64), R] := Has.pick hH246 [0, 3, 3, 4, 4, 4] (by kernel_rfl)
            refine ze (hJ252 _ _ ⟨R4.2.1, sg155, false, hH427, (hd164), (R4f_.mono (by omega)), (R4k_), (hc3_.len), (hc3_.f64), (rfl), (⟨R4.2.2.l, fun k_ => hc3_.keep hc2_ hps3_ k_, ⟨[], (List.append_nil _).symm⟩, hc4.grw.l, fun h_ => by rw [h415] at h_; cases h_⟩), e188_0, e188_1, e188_2, e188_3, e188_4, e188_5, e188_6, e188_14, e188_15, e188_16, e188_17, e188_18, e188_19, e188_20, e188_21, e188_22, rfl, e188_43, e188_51, e188_55, e188_102, e188_116, e188_136, e188_145, rfl, rfl⟩)
     refine Rest.region mixed (by kernel_rfl) ?_
     have hH428 : Has E { w120 with drawn := w120.drawn + 1 } [sg116, (yP pb30 d3.p), (yo b110 #[va92, vb93] 61), s98, s99, s100, s101, (yo b89 #[(yp db28)] 25), (yo ab27 #[(yp db28), (yi 2), (yi (kk : Int))] 265), ss81, (yR rb23 (runOf (kk : Int) v) db28 sb25 x64), s65, R] := Has0.drew hH121 _
     refine Rest.phaseA (fun w_ => Has E w_ [(yo b110 #[va92, vb93] 61), (yR rb23 (runOf (kk : Int) v) db28 sb25 x64)]) 0 8 8 rfl (by decide) (by kernel_rfl) (zn 0 rfl (by kernel_rfl) (fun w_ h_ => zG (cs := [va92, vb93]) Tryz.underlying61 rfl ti61 rfl h_ (zh 0 rfl) (CellsAt.one rfl) ⟨rfl, rfl⟩) (zn 1 rfl (by kernel_rfl) (fun w_ h_ => zb v3 e41_6 ⟨rfl, rfl⟩) (zn 3 rfl (by kernel_rfl) (fun w_ h_ => zb (yp rb23) e41_15 ⟨rfl, rfl⟩) (zn 4 rfl (by kernel_rfl) (fun w_ h_ => zl rfl ⟨rfl, rfl⟩) (zn 5 rfl (by kernel_rfl) (fun w_ h_ => zg (k := 0) (fun _ => by kernel_rfl) rfl ⟨rfl, rfl⟩) (zn 6 rfl (by kernel_rfl) (fun w_ h_ => zj (v := (yp db28)) Tryz.underlying25 rfl rfl h_ (zh 1 rfl) (CellsAt.one rfl) ⟨rfl, rfl⟩) ?_))))))
     have hH429 := ((hH428.front 10 rfl).front 3 rfl).first 2 rfl
     refine a_two 2 7 (by kernel_rfl) hH429 ?_ ?_
     ·
      have hH430 : Has E { w120 with drawn := w120.drawn + 1 } [(yo b110 #[va92, vb93] 61), (yR rb23 (runOf (kk : Int) v) db28 sb25 x64)] := ((hH428.front 10 rfl).front 3 rfl).first 2 rfl
      refine ok_w 2 rfl (zw (ps := #[(0, v3)]) (cells := #[v3]) Tryz.underlying59 ti47 (by decide) (yb rfl) (fill_one1 hkp.one rfl) hH428 fun b431 w432 hH433 => ?_)
      have hH434 := ((hH433.front 11 rfl).front 4 rfl).first 2 rfl
      refine a_w 7 rfl (by kernel_rfl) hH434 (zw (ps := #[(0, (yp db28))]) (cells := #[(yp db28)]) Tryz.underlying74 ti25 (by decide) (yb rfl) (by kernel_rfl) hH433 fun b435 w436 hH437 => ?_)
      have hH438 := ((hH437.front 12 rfl).front 5 rfl).first 2 rfl
      refine zM (by kernel_rfl) hH438 (zO 8 rfl (by kernel_rfl) (zk (vs := #[(.agg #[va92, vb93]), (.slice (some ⟨b431, 0, none⟩) 1 1), (.slice (some ⟨b435, 0, none⟩) 1 1)]) ca27 rfl (args3 rfl rfl rfl) (odd8_c (d := d3) ((hH437.front 3 rfl).front 3 rfl).all2 hd122 (by omega) hc2_.f64 (by omega) (vd := (.slice (some ⟨b435, 0, none⟩) 1 1)) ((zW (f := ptC) (l := [db28]) (g := (0, 0)) (T := 25) rfl rfl (by simp)).mono (zh 0 rfl)) (va := va92) (vb := vb93) (ho102.sl.mono (zh 3 rfl)) (ho103.sl.mono (zh 4 rfl)) (ho104.sl.mono (zh 5 rfl)) (ho105.sl.mono (zh 6 rfl)) (vk := (.slice (some ⟨b431, 0, none⟩) 1 1)) ((zW (f := rvC) (l := [(RowV.mk v3 keep)]) (g := (0, 0)) (T := 47) rfl rfl (by simp)).mono (zh 1 rfl)) (hkp.mono (zh 12 rfl))) ?_))
      rintro _ w443 ⟨od439, rfl, hod440, hX441⟩
      refine ⟨_, rfl, ?_⟩
      have hH442 := hX441.of_all2
      refine Rest.done (by kernel_rfl) ?_
      have hH444 := (((((hH442.front 14 rfl).front 13 rfl).front 6 rfl).front 4 rfl).front 4 rfl).first 5 rfl
      refine ze (hJ127 _ _ ⟨od439, hH444, (hod440), e41_0, e41_1, e41_2, e41_3, e41_4, e41_5, e41_6, e41_14, e41_15, e41_16, rfl, e41_43, e41_51, rfl, rfl⟩)
     ·
      have hH445 : Has E { w120 with drawn := w120.drawn + 1 } [(yo b110 #[va92, vb93] 61), (yR rb23 (runOf (kk : Int) v) db28 sb25 x64)] := ((hH428.front 10 rfl).front 3 rfl).first 2 rfl
      refine ok_w 7 rfl (zw (ps := #[(0, (yp db28))]) (cells := #[(yp db28)]) Tryz.underlying74 ti25 (by decide) (yb rfl) (by kernel_rfl) hH428 fun b446 w447 hH448 => ?_)
      have hH449 := ((hH448.front 11 rfl).front 4 rfl).first 2 rfl
      refine a_w 2 rfl (by kernel_rfl) hH449 (zw (ps := #[(0, v3)]) (cells := #[v3]) Tryz.underlying59 ti47 (by decide) (yb rfl) (fill_one1 hkp.one rfl) hH448 fun b450 w451 hH452 => ?_)
      have hH453 := ((hH452.front 12 rfl).front 5 rfl).first 2 rfl
      refine zM (by kernel_rfl) hH453 (zO 8 rfl (by kernel_rfl) (zk (vs := #[(.agg #[va92, vb93]), (.slice (some ⟨b450, 0, none⟩) 1 1), (.slice (some ⟨b446, 0, none⟩) 1 1)]) ca27 rfl (args3 rfl rfl rfl) (odd8_c (d := d3) ((hH452.front 3 rfl).front 3 rfl).all2 hd122 (by omega) hc2_.f64 (by omega) (vd := (.slice (some ⟨b446, 0, none⟩) 1 1)) ((zW (f := ptC) (l := [db28]) (g := (0, 0)) (T := 25) rfl rfl (by simp)).mono (zh 1 rfl)) (va := va92) (vb := vb93) (ho102.sl.mono (zh 3 rfl)) (ho103.sl.mono (zh 4 rfl)) (ho104.sl.mono (zh 5 rfl)) (ho105.sl.mono (zh 6 rfl)) (vk := (.slice (some ⟨b450, 0, none⟩) 1 1)) ((zW (f := rvC) (l := [(RowV.mk v3 keep)]) (g := (0, 0)) (T := 47) rfl rfl (by simp)).mono (zh 0 rfl)) (hkp.mono (zh 12 rfl))) ?_))
      rintro _ w458 ⟨od454, rfl, hod455, hX456⟩
      refine ⟨_, rfl, ?_⟩
      have hH457 := hX456.of_all2
      refine Rest.done (by kernel_rfl) ?_
      have hH459 := (((((hH457.front 14 rfl).front 13 rfl).front 6 rfl).front 4 rfl).front 4 rfl).first 5 rfl
      refine ze (hJ127 _ _ ⟨od454, hH459, (hod455), e41_0, e41_1, e41_2, e41_3, e41_4, e41_5, e41_6, e41_14, e41_15, e41_16, rfl, e41_43, e41_51, rfl, rfl⟩)
end Go.Q
namespace Go.Q
theorem arr_cells {H : Type} {enc : TypeId × Value → H} {P : Program} {w : World} {base : Nat} {spare : Nat → Bool} {held : Bool} {fuel n : Nat} {t e : TypeId} {k : IntKind} {cs : List Value} {l : List Int} {p : List MemPlace}
  (ht : P.underlying t = some (.array n e)) (he : P.underlying e = some (.int k)) (hc : P.cellsOf e = 1) (hl : l.length = n)
  (h : DataW.trod enc P w base spare held fuel t cs = some (.agg (l.map fun z => (DataW.lit (Lit.int k z) : DataW H)), p)) : ∀ (i : Nat) (z : Int), l[i]? = some z → cs[i]? = some (Value.int k z) := by
 intro i z hz
 obtain ⟨xs, m, _, hx, _, hn, hel⟩ := DataW.trod_array ht h
 simp only [Prod.mk.injEq, DataW.agg.injEq] at hx
 have hi : i < n := by rw [← hl]; exact (List.getElem?_eq_some_iff.1 hz).1
 have h1 := hel i hi
 rw [hc, Nat.mul_one, List.getElem?_eq_getElem (by omega)] at h1
 obtain ⟨r, e1, e2, _⟩ := DataW.trod_int he h1
 have e3 : (xs.map (·.1))[i]? = some (DataW.lit (Lit.int k z)) := by rw [← hx.1, List.getElem?_map, hz]; rfl
 rw [List.getElem?_map, List.getElem?_eq_getElem (by omega), Option.map_some] at e3
 rw [e2] at e3
 have e4 : r = z := by simpa using e3
 subst e4
 have e5 : (List.take 1 (List.drop i cs))[0]? = some (.int k r) := by rw [e1]; rfl
 rw [List.getElem?_take, if_pos (by omega), List.getElem?_drop] at e5
 simpa using e5
end Go.Q
namespace Go.Q
open Go.Proofs
set_option linter.unusedVariables false
set_option maxRecDepth 100000
attribute [local irreducible] wpList OK Code.wp
end Go.Q
