/-
  Parts of a walk: what functions of the program compute, each told by a theorem (Qsh3, Qsm3, Qsd9, QsSB, Qsa1, Qsm2, Qsm9, Qsm14, Qsa2, Qsa3, Qsa4, QsSh4, Qsa5, Qsm11, Qsm12, Qsm1, Qsh5, Qsm13, Qsm10, Qsm15).
-/
import Derived.Test.YtmfppdpfljpphaaGreatDoorB4
import Derived.Shelf.Strings.Trim
set_option linter.unusedVariables false
set_option linter.unusedSimpArgs false
set_option maxHeartbeats 4000000
set_option linter.unnecessarySimpa false
namespace Go.Q
open Go.Proofs
set_option linter.unusedVariables false
set_option maxRecDepth 100000
attribute [local irreducible] wpList OK Code.wp
theorem there_c {E w : World} {R sg : List Hp} {pb db : Nat} {p : Pw} {la : List Bs} {lo : List (Int × Bs)} (hH : Has E w [sg, (yP pb p), R]) (hd : DevAt pb sg db la lo) (x : Int) :
  Calls Tryz.prog 187 #[(yp db), (yi x)] w fun e w' => e = .returned (yi (thE p la.length x)) ∧ Has E w' [sg, (yP pb p), R] := by
 have hln_ : la.length ≤ 9223372036854775807 := by obtain ⟨_, _, _, _, _, _, h_, _⟩ := hd; exact h_.sl.le
 refine zs (args := [(yp db), (yi x)]) Tryz.func187 rfl Tryz.ntmps187 (by simp) (yq fun K1 hK1 => (zd (za (zc (yi 0) rfl (zf (ze (hK1 _ _ (yq fun K2 hK2 => (wp_block (yq fun K3 hK3 => (zd (za (zb (yi x) rfl (za (zL (a := x) (b := 0) rfl rfl (za (zb (.bool (decide (x < 0))) rfl ?_)))))))))))))))))
 by_cases h4 : x < 0
 ·
  refine zi (b' := true) 8 rfl (cT h4) rfl (zi (b' := true) 8 rfl (cT h4) rfl (zi (b' := true) 8 rfl (cT h4) rfl (zi (b' := true) 8 rfl (cT h4) rfl (zi (b' := true) 8 rfl (cT h4) rfl (za (zq (u := (.bool true)) ((rfl : _ = _).trans (cT h4)) rfl (za (zc (.bool true) rfl (zf (ze (hK3 _ _ (zP rfl rfl (yq fun K5 hK5 => (zd (za (zc (yi 1) rfl (zf (ze (hK5 _ _ ?_)))))))))))))))))))
  refine wp_ret (zZ (zx (zr Tryz.results187  (v := (yi 1)) rfl ?_)))
  exact ⟨by rw [thE_arg (by omega)], hH⟩
 ·
  refine zo 8 rfl (cF h4) (zb (yi x) rfl (zo 8 rfl (cF h4) (zb (yp db) rfl (zo 8 rfl (cF h4) (zk (vs := #[(yp db)]) ca85 rfl (zI rfl) (sectors_d (p := p) (la := la) (lo := lo) ((hH.front 1 rfl).front 1 rfl).all2 hd ) ?_)))))
  rintro _ w8 ⟨rfl, hX6⟩
  refine ⟨_, rfl, ?_⟩
  have hH7 : Has E w8 [sg, (yP pb p), R] := hX6.of_all2
  refine zo 8 rfl (cF h4) (o_sub (a := ((la.length : Nat) : Int)) (b := 1) rfl rfl (w64 (by omega) (by omega)) (zo 8 rfl (cF h4) (o_geq (a := x) (b := ((la.length : Nat) : Int) - 1) rfl rfl (za (zm (u := (.bool (decide (((la.length : Nat) : Int) - 1 ≤ x)))) ((rfl : _ = _).trans (cF h4)) rfl (za (zc (.bool (decide (((la.length : Nat) : Int) - 1 ≤ x))) rfl (zf (ze (hK3 _ _ (zt rfl (fun h9 => ?_) (fun h9 => ?_))))))))))))
  ·
   refine yq fun K10 hK10 => (zd (za (zc (yi 1) rfl (zf (ze (hK10 _ _ (wp_ret (zZ (zx (zr Tryz.results187  (v := (yi 1)) rfl ?_))))))))))
   exact ⟨by rw [thE_arg (by omega)], hH7⟩
  ·
   refine yq fun K11 hK11 => (zd (za (zb (yp db) rfl (za (zk (vs := #[(yp db)]) ca186 rfl (zI rfl) (don_d (p := p) (la := la) (lo := lo) ((hH7.front 1 rfl).front 1 rfl).all2 hd ) ?_)))))
   rintro _ w14 ⟨rfl, hX12⟩
   refine ⟨_, rfl, ?_⟩
   have hH13 : Has E w14 [sg, (yP pb p), R] := hX12.of_all2
   refine za (o_not rfl (za (zc (.bool (!(!p.off))) rfl (zf (ze (hK11 _ _ (z7 rfl (fun h15 => ?_) (fun h15 => ?_))))))))
   ·
    have h15_n : (!p.off) = false := by first | simpa using h15 | exact Bool.of_not_eq_true (fun g_ => by rw [g_] at h15; cases h15)
    have h15_n_n : p.off = true := by first | simpa using h15_n | exact Bool.of_not_eq_false (fun g_ => by rw [g_] at h15_n; cases h15_n)
    refine yq fun K16 hK16 => (zd (za (zc (yi 6) rfl (zf (ze (hK16 _ _ (wp_ret (zZ (zx (zr Tryz.results187  (v := (yi 6)) rfl ?_))))))))))
    exact ⟨by rw [thE_off (by omega) (by omega) (by simpa using h15)], hH13⟩
   ·
    have h15_n : (!p.off) = true := by first | simpa using h15 | exact Bool.of_not_eq_false (fun g_ => by rw [g_] at h15; cases h15)
    have h15_n_n : p.off = false := by first | simpa using h15_n | exact Bool.of_not_eq_true (fun g_ => by rw [g_] at h15_n; cases h15_n)
    refine wp_skip (zC (ze (hK2 _ _ (yq fun K17 hK17 => (zd (za (zc (yi 0) rfl (zf (ze (hK17 _ _ (wp_ret (zr Tryz.results187  (v := (yi 0)) rfl ?_))))))))))))
    exact ⟨by rw [thE_ok (by omega) (by omega) (by simpa using h15)], hH13⟩
end Go.Q
namespace Go.Q
open Go.Proofs
set_option linter.unusedVariables false
set_option maxRecDepth 100000
attribute [local irreducible] wpList OK Code.wp
theorem hsv_c {E w : World} {R sg : List Hp} {pb db : Nat} {d : Dv} (hH : Has E w [sg, (yP pb d.p), R]) (hd : DevAt pb sg db d.la d.lo) {k : Nat} (hf : Few d.p k) (hk : k ≤ 900000) (hlk : LoOk d.lo d.la.length) (h4 : d.la.length ≤ 4096) (hg : CellsAt R 0 0 nibV) (x : Int) {h : Hd} :
  Calls Tryz.prog 123 #[(yp db), (yi x), (.agg (yH h))] w fun e w' => ∃ sg', e = .returned (.tuple #[.agg (yH ((svD d x h).2.1)), .int .i64 (svD d x h).1]) ∧ DevAt pb sg' db (svD d x h).2.2.la (svD d x h).2.2.lo ∧ Has E w' [sg', (yP pb ((svD d x h).2.2).p), R] := by
 refine zs (args := [(yp db), (yi x), (.agg (yH h))]) Tryz.func123 rfl Tryz.ntmps123 (by simp) (yq fun K1 hK1 => (zd (za (o_box (cs := (yH h)) rfl rfl hH fun b2 w3 hH4 => (za (zU (cs := y0A) zY rfl hH4 fun b5 w6 hH7 => (za (zc (yi 0) rfl (zf (ze (hK1 _ _ (yq fun K8 hK8 => (yq fun K9 hK9 => (zd (za (zg (k := 0) (fun _ => by kernel_rfl) rfl (za (zj (v := (yi h.seq)) Tryz.underlying3 rfl rfl hH7 (zh 1 rfl) (CellsAt.one rfl) (za (zL (a := h.seq) (b := 0) rfl rfl (za (zb (.bool (decide (h.seq < 0))) rfl ?_))))))))))))))))))))))
 by_cases h10 : h.seq < 0
 ·
  refine zi (b' := true) 14 rfl (cT h10) rfl (zi (b' := true) 14 rfl (cT h10) rfl (zi (b' := true) 14 rfl (cT h10) rfl (za (zq (u := (.bool true)) ((rfl : _ = _).trans (cT h10)) rfl (za (zb (.bool true) rfl (zi (b' := true) 19 rfl rfl rfl (zi (b' := true) 19 rfl rfl rfl (zi (b' := true) 19 rfl rfl rfl (za (zq (u := (.bool true)) rfl rfl (zf (ze (hK9 _ _ (zP rfl rfl (yq fun K11 hK11 => (zd (za (zJ (v := (.agg y0A)) (fun _ => by kernel_rfl) ?_)))))))))))))))))))
  refine zB (zv (vs := y0L) (c' := y0A) zY rfl rfl rfl rfl y5 (by simp) (by kernel_rfl) (hH7.front 0 rfl) fun w12 hH13 => (za (zc (yi 1) rfl (zf (ze (hK11 _ _ (wp_ret (zx (zR Tryz.results123 rfl (zu (cs := y0L) Tryz.underlying23 rfl zY hH13 (zh 0 rfl) (CellsAt.one rfl)) (x := (yi 1)) rfl ?_)))))))))
  have hH14 := (((hH13.front 4 rfl).front 4 rfl).front 4 rfl).first 3 rfl
  have hE_ : (svD d x h) = (1, hdZ, d) := svD_bad (fun k => by have k1 := k.1; have k2 := k.2; omega)
  exact ⟨_, by first | (rw [hE_]; done) | (rw [hE_]; rfl), by rw [hE_]; exact hd, by rw [hE_]; exact hH14⟩
 ·
  refine zo 14 rfl (cF h10) (zg (k := 0) (fun _ => by kernel_rfl) rfl (zo 14 rfl (cF h10) (zj (v := (yi h.seq)) Tryz.underlying3 rfl rfl hH7 (zh 1 rfl) (CellsAt.one rfl) (zo 14 rfl (cF h10) (o_geq (a := h.seq) (b := 4611686018427387903) rfl rfl (za (zm (u := (.bool (decide (4611686018427387903 ≤ h.seq)))) ((rfl : _ = _).trans (cF h10)) rfl (za (zb (.bool (decide (4611686018427387903 ≤ h.seq))) rfl ?_)))))))))
  by_cases h15 : 4611686018427387903 ≤ h.seq
  ·
   refine zi (b' := true) 19 rfl (cT h15) rfl (zi (b' := true) 19 rfl (cT h15) rfl (zi (b' := true) 19 rfl (cT h15) rfl (za (zq (u := (.bool true)) ((rfl : _ = _).trans (cT h15)) rfl (zf (ze (hK9 _ _ (zP rfl rfl (yq fun K16 hK16 => (zd (za (zJ (v := (.agg y0A)) (fun _ => by kernel_rfl) (zB (zv (vs := y0L) (c' := y0A) zY rfl rfl rfl rfl y5 (by simp) (by kernel_rfl) (hH7.front 0 rfl) fun w17 hH18 => (za (zc (yi 1) rfl (zf (ze (hK16 _ _ (wp_ret ?_))))))))))))))))))))
   refine zx (zR Tryz.results123 rfl (zu (cs := y0L) Tryz.underlying23 rfl zY hH18 (zh 0 rfl) (CellsAt.one rfl)) (x := (yi 1)) rfl ?_)
   have hH19 := (((hH18.front 4 rfl).front 4 rfl).front 4 rfl).first 3 rfl
   have hE_ : (svD d x h) = (1, hdZ, d) := svD_bad (fun k => by have k1 := k.1; have k2 := k.2; omega)
   exact ⟨_, by first | (rw [hE_]; done) | (rw [hE_]; rfl), by rw [hE_]; exact hd, by rw [hE_]; exact hH19⟩
  ·
   refine zo 19 rfl (cF h15) (zG (cs := (yL h)) Tryz.underlying23 rfl zY rfl hH7 (zh 1 rfl) (CellsAt.one rfl) (zo 19 rfl (cF h15) (zk (vs := #[(.agg (yH h))]) ca88 rfl (zI rfl) (hright_c (h := h) hH7.all ) ?_)))
   rintro _ w22 ⟨rfl, hX20⟩
   refine ⟨_, rfl, ?_⟩
   have hH21 := hX20.of_all
   refine zo 19 rfl (cF h15) (o_not rfl (za (zm (u := (.bool (!(hdR h)))) ((rfl : _ = _).trans (cF h15)) rfl (zf (ze (hK9 _ _ (z7 rfl (fun h23 => ?_) (fun h23 => ?_))))))))
   ·
    have h23_n : (hdR h) = false := by first | simpa using h23 | exact Bool.of_not_eq_true (fun g_ => by rw [g_] at h23; cases h23)
    refine yq fun K24 hK24 => (zd (za (zJ (v := (.agg y0A)) (fun _ => by kernel_rfl) (zB (zv (vs := y0L) (c' := y0A) zY rfl rfl rfl rfl y5 (by simp) (by kernel_rfl) (hH21.front 0 rfl) fun w25 hH26 => (za (zc (yi 1) rfl (zf (ze (hK24 _ _ (wp_ret (zx (zR Tryz.results123 rfl (zu (cs := y0L) Tryz.underlying23 rfl zY hH26 (zh 0 rfl) (CellsAt.one rfl)) (x := (yi 1)) rfl ?_)))))))))))))
    have hH27 := (((hH26.front 4 rfl).front 4 rfl).front 4 rfl).first 3 rfl
    have hE_ : (svD d x h) = (1, hdZ, d) := svD_bad (fun k => by have k1 := k.1; have k2 := k.2; have k3 := h23; rw [k2] at k3; cases k3)
    exact ⟨_, by first | (rw [hE_]; done) | (rw [hE_]; rfl), by rw [hE_]; exact hd, by rw [hE_]; exact hH27⟩
   ·
    have h23_n : (hdR h) = true := by first | simpa using h23 | exact Bool.of_not_eq_false (fun g_ => by rw [g_] at h23; cases h23)
    refine wp_skip (ze (hK8 _ _ (yq fun K28 hK28 => (yq fun K29 hK29 => (zd (za (zb (yp db) rfl (za (zb (yi x) rfl (za (zk (vs := #[(yp db), (yi x)]) ca187 rfl (zF rfl rfl) (there_c ((hH21.front 3 rfl).front 3 rfl).all2 hd x) ?_)))))))))))
    rintro _ w32 ⟨rfl, hX30⟩
    refine ⟨_, rfl, ?_⟩
    have hH31 : Has E w32 [sg, (yP pb d.p), (yo b5 y0A 23), [Hp.one b2 (.cells (yH h) 23 (0, 0))], R] := hX30.of_all2
    refine za (zc (yi (thE d.p d.la.length x)) rfl (zf (ze (hK29 _ _ (yq fun K33 hK33 => (zd (za (zb (yi (thE d.p d.la.length x)) rfl (za (o_neq (a := thE d.p d.la.length x) (b := 0) rfl rfl (zf (ze (hK33 _ _ (zt rfl (fun h34 => ?_) (fun h34 => ?_)))))))))))))))
    ·
     refine yq fun K35 hK35 => (zd (za (zJ (v := (.agg y0A)) (fun _ => by kernel_rfl) (za (zb (yi (thE d.p d.la.length x)) rfl (zB (zv (vs := y0L) (c' := y0A) zY rfl rfl rfl rfl y5 (by simp) (by kernel_rfl) (hH31.front 2 rfl) fun w36 hH37 => (za (zc (yi (thE d.p d.la.length x)) rfl (zf (ze (hK35 _ _ (wp_ret (zx (zR Tryz.results123 rfl (zu (cs := y0L) Tryz.underlying23 rfl zY hH37 (zh 0 rfl) (CellsAt.one rfl)) (x := (yi (thE d.p d.la.length x))) rfl ?_)))))))))))))))
     have hH38 := (((hH37.front 4 rfl).front 3 rfl).front 3 rfl).first 3 rfl
     have hE_ : (svD d x h) = (thE d.p d.la.length x, hdZ, d) := svD_th (h := h) ⟨⟨by omega, by omega⟩, by simpa using h23⟩ h34
     exact ⟨_, by first | (rw [hE_]; done) | (rw [hE_]; rfl), by rw [hE_]; exact hd, by rw [hE_]; exact hH38⟩
    ·
     have hth_ := thE_zero (Classical.not_not.1 h34)
     have hok_ : svOk h := ⟨⟨by omega, by omega⟩, by simpa using h23⟩
     obtain ⟨hx1_, hx2_⟩ := hth_.1
     have hul_ := hdU_len hok_
     unfold hdUp at hul_
     refine wp_skip (ze (hK28 _ _ (yq fun K39 hK39 => (zd (za (zg (k := 0) (fun _ => by kernel_rfl) rfl (za (zj (v := (yi h.seq)) Tryz.underlying3 rfl rfl hH31 (zh 3 rfl) (CellsAt.one rfl) (za (zD (a := h.seq) (b := 1) rfl rfl (w64 (by omega) (by omega)) (za (zg (k := 0) (fun _ => by kernel_rfl) rfl (zB (zH (c' := #[(yi (h.seq + 1)), (yi h.ep), (yi h.cut), (yi h.st), (yi h.mrk)]) ti3 rfl rfl rfl (by simp) rfl (hH31.front 3 rfl) fun w40 hH41 => (zf (ze (hK39 _ _ (yq fun K42 hK42 => (yq fun K43 hK43 => (Rest.region mixed (by kernel_rfl) ?_))))))))))))))))))))
     have hH44 : Has E { w40 with drawn := w40.drawn + 1 } [(yo b2 #[(yi (h.seq + 1)), (yi h.ep), (yi h.cut), (yi h.st), (yi h.mrk)] 23), sg, (yP pb d.p), (yo b5 y0A 23), R] := Has0.drew hH41 _
     refine Rest.phaseA (fun w_ => Has E w_ [(yo b2 #[(yi (h.seq + 1)), (yi h.ep), (yi h.cut), (yi h.st), (yi h.mrk)] 23)]) 0 9 9 rfl (by decide) (by kernel_rfl) (zn 0 rfl (by kernel_rfl) (fun w_ h_ => zb (yp db) rfl ⟨rfl, rfl⟩) (zn 1 rfl (by kernel_rfl) (fun w_ h_ => zb (yi x) rfl ⟨rfl, rfl⟩) (zn 2 rfl (by kernel_rfl) (fun w_ h_ => zg (k := 0) (fun _ => by kernel_rfl) rfl ⟨rfl, rfl⟩) (zn 3 rfl (by kernel_rfl) (fun w_ h_ => zj (v := (yi (h.seq + 1))) Tryz.underlying3 rfl rfl h_ (zh 0 rfl) (CellsAt.one rfl) ⟨rfl, rfl⟩) (zn 4 rfl (by kernel_rfl) (fun w_ h_ => o_rem (a := h.seq + 1) (b := 2) (c := (h.seq + 1) % 2) rfl rfl (by omega) ((Int.tmod_eq_emod_of_nonneg (by first | exact Int.natCast_nonneg _ | omega))) ⟨rfl, rfl⟩) (zn 5 rfl (by kernel_rfl) (fun w_ h_ => zD (a := x) (b := (h.seq + 1) % 2) rfl rfl (w64 (by omega) (by omega)) ⟨rfl, rfl⟩) (zn 6 rfl (by kernel_rfl) (fun w_ h_ => zG (cs := [(yi (h.seq + 1)), (yi h.ep), (yi h.cut), (yi h.st), (yi h.mrk)]) Tryz.underlying23 rfl zY rfl h_ (zh 0 rfl) (CellsAt.one rfl) ⟨rfl, rfl⟩) ?_)))))))
     have hH45 := hH44.first 1 rfl
     refine a_w 7 rfl (by kernel_rfl) hH45 (zk (vs := #[(.agg #[(yi (h.seq + 1)), (yi h.ep), (yi h.cut), (yi h.st), (yi h.mrk)])]) ca13 rfl (zI rfl) (hlaid_c (h := (Hd.mk (h.seq + 1) h.ep h.cut h.st h.mrk)) hH44.all (hg.mono (zh 4 rfl))) ?_)
     rintro _ w48 ⟨rfl, hX46⟩
     refine ⟨_, rfl, ?_⟩
     have hH47 := hX46.of_all
     have hH49 := hH47.first 1 rfl
     refine a_w 8 rfl (by kernel_rfl) hH49 (zw (ps := #[(0, (S (hdL (Hd.mk (h.seq + 1) h.ep h.cut h.st h.mrk))))]) (cells := #[(S (hdL (Hd.mk (h.seq + 1) h.ep h.cut h.st h.mrk)))]) Tryz.underlying46 ti9 (by decide) (yb rfl) (by kernel_rfl) hH47 fun b50 w51 hH52 => ?_)
     have hH53 := (hH52.front 1 rfl).first 1 rfl
     refine zM (by kernel_rfl) hH53 (zO 9 rfl (by kernel_rfl) (zk (vs := #[(yp db), (yi (x + ((h.seq + 1) % 2))), (.slice (some ⟨b50, 0, none⟩) 1 1)]) ca122 rfl (args3 rfl rfl rfl) (dv_wr (d := d) ((hH52.front 3 rfl).front 3 rfl).all2 hd (hf.ok (by omega)) h4 (x + ((h.seq + 1) % 2)) (l := [(hdL (Hd.mk (h.seq + 1) h.ep h.cut h.st h.mrk))]) ((zW (f := sV) (l := [(hdL (Hd.mk (h.seq + 1) h.ep h.cut h.st h.mrk))]) rfl rfl (by simp)).mono (zh 0 rfl)) (s := (hdL (Hd.mk (h.seq + 1) h.ep h.cut h.st h.mrk))) (by simp) (by simp) (by omega)) ?_))
     rintro _ w58 ⟨sg54, rfl, hd55, hX56⟩
     refine ⟨_, rfl, ?_⟩
     have hH57 : Has E w58 [sg54, (yP pb (d.wr (x + ((h.seq + 1) % 2)) (hdL (Hd.mk (h.seq + 1) h.ep h.cut h.st h.mrk))).p), (yo b50 #[(S (hdL (Hd.mk (h.seq + 1) h.ep h.cut h.st h.mrk)))] 9), (yo b2 #[(yi (h.seq + 1)), (yi h.ep), (yi h.cut), (yi h.st), (yi h.mrk)] 23), (yo b5 y0A 23), R] := hX56.of_all2
     refine zO 10 rfl (by kernel_rfl) (zc (yi (d.wrE (x + ((h.seq + 1) % 2)) (hdL (Hd.mk (h.seq + 1) h.ep h.cut h.st h.mrk)))) rfl (Rest.done (by kernel_rfl) (ze (hK43 _ _ (yq fun K59 hK59 => (zd (za (zb (yi (d.wrE (x + ((h.seq + 1) % 2)) (hdL (Hd.mk (h.seq + 1) h.ep h.cut h.st h.mrk)))) rfl (za (o_neq (a := d.wrE (x + ((h.seq + 1) % 2)) (hdL (Hd.mk (h.seq + 1) h.ep h.cut h.st h.mrk))) (b := 0) rfl rfl (zf (ze (hK59 _ _ (zt rfl (fun h60 => ?_) (fun h60 => ?_)))))))))))))))
     ·
      refine yq fun K61 hK61 => (zd (za (zJ (v := (.agg y0A)) (fun _ => by kernel_rfl) (za (zb (yi (d.wrE (x + ((h.seq + 1) % 2)) (hdL (Hd.mk (h.seq + 1) h.ep h.cut h.st h.mrk)))) rfl (zB (zv (vs := y0L) (c' := y0A) zY rfl rfl rfl rfl y5 (by simp) (by kernel_rfl) (hH57.front 4 rfl) fun w62 hH63 => (za (zc (yi (d.wrE (x + ((h.seq + 1) % 2)) (hdL (Hd.mk (h.seq + 1) h.ep h.cut h.st h.mrk)))) rfl (zf (ze (hK61 _ _ (wp_ret (zx (zR Tryz.results123 rfl (zu (cs := y0L) Tryz.underlying23 rfl zY hH63 (zh 0 rfl) (CellsAt.one rfl)) (x := (yi (d.wrE (x + ((h.seq + 1) % 2)) (hdL (Hd.mk (h.seq + 1) h.ep h.cut h.st h.mrk))))) rfl ?_)))))))))))))))
      have hH64 := (((hH63.front 5 rfl).front 3 rfl).front 3 rfl).first 3 rfl
      have hE_ : (svD d x h) = (d.wrE (x + ((h.seq + 1) % 2)) (hdL (Hd.mk (h.seq + 1) h.ep h.cut h.st h.mrk)), hdZ, (d.wr (x + ((h.seq + 1) % 2)) (hdL (Hd.mk (h.seq + 1) h.ep h.cut h.st h.mrk)))) := svD_w hok_ (Classical.not_not.1 h34) h60
      exact ⟨_, by first | (rw [hE_]; done) | (rw [hE_]; rfl), by rw [hE_]; exact hd55, by rw [hE_]; exact hH64⟩
     ·
      refine wp_skip (ze (hK42 _ _ (yq fun K65 hK65 => (yq fun K66 hK66 => (zd (za (zb (yp db) rfl (za (zk (vs := #[(yp db)]) ca32 rfl (zI rfl) (dv_syN (d := (d.wr (x + ((h.seq + 1) % 2)) (hdL (Hd.mk (h.seq + 1) h.ep h.cut h.st h.mrk)))) ((hH57.front 1 rfl).front 1 rfl).all2 hd55 (hf.use.ok (by omega)) h4 (hlk.write _ _ _)) ?_)))))))))
      rintro _ w71 ⟨sg67, rfl, hd68, hX69⟩
      refine ⟨_, rfl, ?_⟩
      have hH70 : Has E w71 [sg67, (yP pb ((d.wr (x + ((h.seq + 1) % 2)) (hdL (Hd.mk (h.seq + 1) h.ep h.cut h.st h.mrk))).syN).p), (yo b50 #[(S (hdL (Hd.mk (h.seq + 1) h.ep h.cut h.st h.mrk)))] 9), (yo b2 #[(yi (h.seq + 1)), (yi h.ep), (yi h.cut), (yi h.st), (yi h.mrk)] 23), (yo b5 y0A 23), R] := hX69.of_all2
      refine za (zc (yi ((d.wr (x + ((h.seq + 1) % 2)) (hdL (Hd.mk (h.seq + 1) h.ep h.cut h.st h.mrk))).syE)) rfl (zf (ze (hK66 _ _ (yq fun K72 hK72 => (zd (za (zb (yi ((d.wr (x + ((h.seq + 1) % 2)) (hdL (Hd.mk (h.seq + 1) h.ep h.cut h.st h.mrk))).syE)) rfl (za (o_neq (a := (d.wr (x + ((h.seq + 1) % 2)) (hdL (Hd.mk (h.seq + 1) h.ep h.cut h.st h.mrk))).syE) (b := 0) rfl rfl (zf (ze (hK72 _ _ (zt rfl (fun h73 => ?_) (fun h73 => ?_)))))))))))))))
      ·
       refine yq fun K74 hK74 => (zd (za (zJ (v := (.agg y0A)) (fun _ => by kernel_rfl) (za (zb (yi ((d.wr (x + ((h.seq + 1) % 2)) (hdL (Hd.mk (h.seq + 1) h.ep h.cut h.st h.mrk))).syE)) rfl (zB (zv (vs := y0L) (c' := y0A) zY rfl rfl rfl rfl y5 (by simp) (by kernel_rfl) (hH70.front 4 rfl) fun w75 hH76 => (za (zc (yi ((d.wr (x + ((h.seq + 1) % 2)) (hdL (Hd.mk (h.seq + 1) h.ep h.cut h.st h.mrk))).syE)) rfl (zf (ze (hK74 _ _ (wp_ret (zx (zR Tryz.results123 rfl (zu (cs := y0L) Tryz.underlying23 rfl zY hH76 (zh 0 rfl) (CellsAt.one rfl)) (x := (yi ((d.wr (x + ((h.seq + 1) % 2)) (hdL (Hd.mk (h.seq + 1) h.ep h.cut h.st h.mrk))).syE))) rfl ?_)))))))))))))))
       have hH77 := (((hH76.front 5 rfl).front 3 rfl).front 3 rfl).first 3 rfl
       have hE_ : (svD d x h) = ((d.wr (x + ((h.seq + 1) % 2)) (hdL (Hd.mk (h.seq + 1) h.ep h.cut h.st h.mrk))).syE, hdZ, (d.wr (x + ((h.seq + 1) % 2)) (hdL (Hd.mk (h.seq + 1) h.ep h.cut h.st h.mrk))).syN) := svD_s hok_ (Classical.not_not.1 h34) (Classical.not_not.1 h60) h73
       exact ⟨_, by first | (rw [hE_]; done) | (rw [hE_]; rfl), by rw [hE_]; exact hd68, by rw [hE_]; exact hH77⟩
      ·
       refine wp_skip (ze (hK65 _ _ (yq fun K78 hK78 => (zd (za (zG (cs := [(yi (h.seq + 1)), (yi h.ep), (yi h.cut), (yi h.st), (yi h.mrk)]) Tryz.underlying23 rfl zY rfl hH70 (zh 3 rfl) (CellsAt.one rfl) (zB (zv (vs := [(yi (h.seq + 1)), (yi h.ep), (yi h.cut), (yi h.st), (yi h.mrk)]) (c' := #[(yi (h.seq + 1)), (yi h.ep), (yi h.cut), (yi h.st), (yi h.mrk)]) zY rfl rfl rfl rfl y5 (by simp) (by kernel_rfl) (hH70.front 4 rfl) fun w79 hH80 => (za (zc (yi 0) rfl (zf (ze (hK78 _ _ (wp_ret (zR Tryz.results123 rfl (zu (cs := [(yi (h.seq + 1)), (yi h.ep), (yi h.cut), (yi h.st), (yi h.mrk)]) Tryz.underlying23 rfl zY hH80 (zh 0 rfl) (CellsAt.one rfl)) (x := (yi 0)) rfl ?_)))))))))))))))
       have hH81 := (((hH80.front 5 rfl).front 3 rfl).front 3 rfl).first 3 rfl
       have hE_ : (svD d x h) = (0, (Hd.mk (h.seq + 1) h.ep h.cut h.st h.mrk), (d.wr (x + ((h.seq + 1) % 2)) (hdL (Hd.mk (h.seq + 1) h.ep h.cut h.st h.mrk))).syN) := svD_ok hok_ (Classical.not_not.1 h34) (Classical.not_not.1 h60) (Classical.not_not.1 h73)
       exact ⟨_, by first | (rw [hE_]; done) | (rw [hE_]; rfl), by rw [hE_]; exact hd68, by rw [hE_]; exact hH81⟩
end Go.Q
namespace Go.Q
open Go.Proofs
set_option linter.unusedVariables false
set_option maxRecDepth 100000
attribute [local irreducible] wpList OK Code.wp
end Go.Q
namespace Go.Q
open Go.Proofs
set_option linter.unusedVariables false
set_option maxRecDepth 100000
attribute [local irreducible] wpList OK Code.wp
theorem cc_f {E w : World} {R : List Hp} {bb : Nat} {v : Value} (hH : Has E w [[Hp.one bb (.cells #[(.pointer none), v] 249 (0, 0))], R]) :
  Calls Tryz.prog 264 #[(.pointer (some ⟨bb, 0, none⟩))] w fun e w' => e = .returned (.tuple #[]) ∧ Has E w' [[Hp.one bb (.cells #[(.pointer (some ⟨bb, 0, none⟩)), v] 249 (0, 0))], R] := by
 refine zs (args := [(.pointer (some ⟨bb, 0, none⟩))]) Tryz.func264 rfl Tryz.ntmps264 (by simp) ?_
 refine wp_seq_k fun K1 hK1 => ?_
 refine zd ?_
 refine za (o_move (v := (.pointer (some ⟨bb, 0, none⟩))) rfl ?_)
 refine za (zl rfl ?_)
 refine za (zg (k := 0) (fun _ => by kernel_rfl) rfl ?_)
 refine za (zj (v := (.pointer none)) Tryz.underlying247 rfl rfl hH (zh 0 rfl) (CellsAt.one rfl) ?_)
 refine za (o_pnil (p := none) Tryz.underlying247 rfl rfl ?_)
 refine zf ?_
 refine ze (hK1 _ _ ?_)
 refine zP rfl rfl ?_
 refine zd ?_
 refine za (o_move (v := (.pointer (some ⟨bb, 0, none⟩))) rfl ?_)
 refine za (o_move (v := (.pointer (some ⟨bb, 0, none⟩))) rfl ?_)
 refine za (o_toUnsafe Tryz.underlying247 Tryz.underlying407 ti249 (by decide) rfl hH (zh 0 rfl) (Nat.zero_lt_succ 1) ?_)
 refine za (o_extern (v' := (.pointer (some ⟨bb, 0, none⟩))) rfl rfl (by rw [run_callFunc_extern Tryz.func324 (by kernel_rfl) (by kernel_rfl) (by kernel_rfl) (e := Extern.AbiNoEscape.same) (by kernel_rfl), Lib.run_noEscape]; rfl) ?_)
 refine za (o_fromUnsafe Tryz.underlying407 Tryz.underlying247 ti249 rfl hH (zh 0 rfl) (by kernel_rfl) ?_)
 refine za (zl rfl ?_)
 refine za (zg (k := 0) (fun _ => by kernel_rfl) rfl ?_)
 refine zB (zH (c' := #[(.pointer (some ⟨bb, 0, none⟩)), v]) ti247 rfl rfl rfl (by simp) rfl (hH.front 0 rfl) fun w2 hH3 => ?_)
 refine zf ?_
 refine c_end0 Tryz.results264  ?_
 exact ⟨rfl, hH3⟩
theorem cc_u {E w : World} {R : List Hp} {bb : Nat} {v : Value} (hH : Has E w [[Hp.one bb (.cells #[(.pointer (some ⟨bb, 0, none⟩)), v] 249 (0, 0))], R]) :
  Calls Tryz.prog 264 #[(.pointer (some ⟨bb, 0, none⟩))] w fun e w' => e = .returned (.tuple #[]) ∧ Has E w' [[Hp.one bb (.cells #[(.pointer (some ⟨bb, 0, none⟩)), v] 249 (0, 0))], R] := by
 refine zs (args := [(.pointer (some ⟨bb, 0, none⟩))]) Tryz.func264 rfl Tryz.ntmps264 (by simp) ?_
 refine wp_seq_k fun K1 hK1 => ?_
 refine zd ?_
 refine za (o_move (v := (.pointer (some ⟨bb, 0, none⟩))) rfl ?_)
 refine za (zl rfl ?_)
 refine za (zg (k := 0) (fun _ => by kernel_rfl) rfl ?_)
 refine za (zj (v := (.pointer (some ⟨bb, 0, none⟩))) Tryz.underlying247 rfl rfl hH (zh 0 rfl) (CellsAt.one rfl) ?_)
 refine za (o_pnil (p := some _) Tryz.underlying247 rfl rfl ?_)
 refine zf ?_
 refine ze (hK1 _ _ ?_)
 refine zK rfl rfl ?_
 refine wp_seq_k fun K2 hK2 => ?_
 refine zd ?_
 refine za (o_move (v := (.pointer (some ⟨bb, 0, none⟩))) rfl ?_)
 refine za (zl rfl ?_)
 refine za (zg (k := 0) (fun _ => by kernel_rfl) rfl ?_)
 refine za (zj (v := (.pointer (some ⟨bb, 0, none⟩))) Tryz.underlying247 rfl rfl hH (zh 0 rfl) (CellsAt.one rfl) ?_)
 refine za (o_move (v := (.pointer (some ⟨bb, 0, none⟩))) rfl ?_)
 refine za (o_pneqSame Tryz.underlying247 ti249 rfl rfl ?_)
 refine zf ?_
 refine ze (hK2 _ _ ?_)
 refine zK rfl rfl ?_
 refine wp_skip ?_
 refine c_end0 Tryz.results264  ?_
 exact ⟨rfl, hH⟩
theorem ws_f {E w : World} {R hs : List Hp} {bb : Nat} {v : Value} {l : List UInt8} (hH : Has E w [hs, [Hp.one bb (.cells #[(.pointer none), v] 249 (0, 0))], R]) (ho : Own 5 1 v l.length (l.map bV) hs) (hnil : l = [] → v = .slice none 0 0) (s : List UInt8) (hb : l.length + s.length ≤ 140737488355328) :
  Calls Tryz.prog 179 #[(.pointer (some ⟨bb, 0, none⟩)), (S s)] w fun e w' => ∃ v' hs', e = .returned (.tuple #[.int .i64 (s.length : Int), .nilIface]) ∧ Own 5 1 v' (l ++ s).length ((l ++ s).map bV) hs' ∧ (l ++ s = [] → v' = .slice none 0 0) ∧ Has E w' [hs', [Hp.one bb (.cells #[(.pointer (some ⟨bb, 0, none⟩)), v'] 249 (0, 0))], R] := by
 refine zs (args := [(.pointer (some ⟨bb, 0, none⟩)), (S s)]) Tryz.func179 rfl Tryz.ntmps179 (by simp) ?_
 refine wp_seq_k fun K1 hK1 => ?_
 refine zd ?_
 refine za (o_assign (v := (.int .i64 0)) rfl ?_)
 refine za (o_assign (v := Value.nilIface) rfl ?_)
 refine zf ?_
 refine ze (hK1 _ _ ?_)
 refine wp_seq_k fun K2 hK2 => ?_
 refine zd ?_
 refine za (o_move (v := (.pointer (some ⟨bb, 0, none⟩))) rfl ?_)
 refine za (zk (vs := #[(.pointer (some ⟨bb, 0, none⟩))]) ca264 rfl (zI rfl) (cc_f (hH.front 1 rfl).all1) ?_)
 rintro _ w5 ⟨rfl, hX3⟩
 refine ⟨_, rfl, ?_⟩
 have hH4 : Has E w5 [[Hp.one bb (.cells #[(.pointer (some ⟨bb, 0, none⟩)), v] 249 (0, 0))], hs, R] := hX3.of_all1
 refine zf ?_
 refine ze (hK2 _ _ ?_)
 refine wp_seq_k fun K6 hK6 => ?_
 refine zd ?_
 refine za (o_move (v := (.pointer (some ⟨bb, 0, none⟩))) rfl ?_)
 refine za (o_move (v := (.pointer (some ⟨bb, 0, none⟩))) rfl ?_)
 refine za (zl rfl ?_)
 refine za (zg (k := 1) (fun _ => by kernel_rfl) rfl ?_)
 refine za (zj (v := v) Tryz.underlying30 rfl rfl hH4 (zh 0 rfl) (CellsAt.one rfl) ?_)
 refine za (o_move (v := (S s)) rfl ?_)
 refine za (o_appstr Tryz.underlying30 Tryz.underlying9 ti5 rfl ho rfl (hH4.front 1 rfl) (by omega) fun v7 s8 w11 ho9 hn10 hH12 => ?_)
 have ho9 : Own 5 1 v7 (l ++ s).length ((l ++ s).map bV) s8 := by rw [List.length_append, List.map_append]; exact ho9
 refine za (zl rfl ?_)
 refine za (zg (k := 1) (fun _ => by kernel_rfl) rfl ?_)
 refine zB (zH (c' := #[(.pointer (some ⟨bb, 0, none⟩)), v7]) ti30 rfl rfl ho9.one (by simp) rfl (hH12.front 1 rfl) fun w13 hH14 => ?_)
 refine zf ?_
 refine ze (hK6 _ _ ?_)
 refine wp_seq_k fun K15 hK15 => ?_
 refine zd ?_
 refine za (o_move (v := (S s)) rfl ?_)
 refine za (z8 Tryz.underlying9 rfl ?_)
 refine za (o_assign (v := (.int .i64 (s.length : Int))) rfl ?_)
 refine za (o_assign (v := Value.nilIface) rfl ?_)
 refine zf ?_
 refine ze (hK15 _ _ ?_)
 refine wp_ret ?_
 refine ya Tryz.results179  (v := (.int .i64 (s.length : Int))) rfl (x := Value.nilIface) rfl ?_
 have hH16 : Has E w13 [s8, [Hp.one bb (.cells #[(.pointer (some ⟨bb, 0, none⟩)), v7] 249 (0, 0))], R] := (((hH14.front 2 rfl).front 1 rfl).front 2 rfl).first 3 rfl
 exact ⟨_, _, rfl, ho9, fun h => hn10 (hnil (List.append_eq_nil_iff.1 h).1) (List.append_eq_nil_iff.1 h).2, hH16⟩
theorem ws_u {E w : World} {R hs : List Hp} {bb : Nat} {v : Value} {l : List UInt8} (hH : Has E w [hs, [Hp.one bb (.cells #[(.pointer (some ⟨bb, 0, none⟩)), v] 249 (0, 0))], R]) (ho : Own 5 1 v l.length (l.map bV) hs) (hnil : l = [] → v = .slice none 0 0) (s : List UInt8) (hb : l.length + s.length ≤ 140737488355328) :
  Calls Tryz.prog 179 #[(.pointer (some ⟨bb, 0, none⟩)), (S s)] w fun e w' => ∃ v' hs', e = .returned (.tuple #[.int .i64 (s.length : Int), .nilIface]) ∧ Own 5 1 v' (l ++ s).length ((l ++ s).map bV) hs' ∧ (l ++ s = [] → v' = .slice none 0 0) ∧ Has E w' [hs', [Hp.one bb (.cells #[(.pointer (some ⟨bb, 0, none⟩)), v'] 249 (0, 0))], R] := by
 refine zs (args := [(.pointer (some ⟨bb, 0, none⟩)), (S s)]) Tryz.func179 rfl Tryz.ntmps179 (by simp) ?_
 refine wp_seq_k fun K1 hK1 => ?_
 refine zd ?_
 refine za (o_assign (v := (.int .i64 0)) rfl ?_)
 refine za (o_assign (v := Value.nilIface) rfl ?_)
 refine zf ?_
 refine ze (hK1 _ _ ?_)
 refine wp_seq_k fun K2 hK2 => ?_
 refine zd ?_
 refine za (o_move (v := (.pointer (some ⟨bb, 0, none⟩))) rfl ?_)
 refine za (zk (vs := #[(.pointer (some ⟨bb, 0, none⟩))]) ca264 rfl (zI rfl) (cc_u (hH.front 1 rfl).all1) ?_)
 rintro _ w5 ⟨rfl, hX3⟩
 refine ⟨_, rfl, ?_⟩
 have hH4 : Has E w5 [[Hp.one bb (.cells #[(.pointer (some ⟨bb, 0, none⟩)), v] 249 (0, 0))], hs, R] := hX3.of_all1
 refine zf ?_
 refine ze (hK2 _ _ ?_)
 refine wp_seq_k fun K6 hK6 => ?_
 refine zd ?_
 refine za (o_move (v := (.pointer (some ⟨bb, 0, none⟩))) rfl ?_)
 refine za (o_move (v := (.pointer (some ⟨bb, 0, none⟩))) rfl ?_)
 refine za (zl rfl ?_)
 refine za (zg (k := 1) (fun _ => by kernel_rfl) rfl ?_)
 refine za (zj (v := v) Tryz.underlying30 rfl rfl hH4 (zh 0 rfl) (CellsAt.one rfl) ?_)
 refine za (o_move (v := (S s)) rfl ?_)
 refine za (o_appstr Tryz.underlying30 Tryz.underlying9 ti5 rfl ho rfl (hH4.front 1 rfl) (by omega) fun v7 s8 w11 ho9 hn10 hH12 => ?_)
 have ho9 : Own 5 1 v7 (l ++ s).length ((l ++ s).map bV) s8 := by rw [List.length_append, List.map_append]; exact ho9
 refine za (zl rfl ?_)
 refine za (zg (k := 1) (fun _ => by kernel_rfl) rfl ?_)
 refine zB (zH (c' := #[(.pointer (some ⟨bb, 0, none⟩)), v7]) ti30 rfl rfl ho9.one (by simp) rfl (hH12.front 1 rfl) fun w13 hH14 => ?_)
 refine zf ?_
 refine ze (hK6 _ _ ?_)
 refine wp_seq_k fun K15 hK15 => ?_
 refine zd ?_
 refine za (o_move (v := (S s)) rfl ?_)
 refine za (z8 Tryz.underlying9 rfl ?_)
 refine za (o_assign (v := (.int .i64 (s.length : Int))) rfl ?_)
 refine za (o_assign (v := Value.nilIface) rfl ?_)
 refine zf ?_
 refine ze (hK15 _ _ ?_)
 refine wp_ret ?_
 refine ya Tryz.results179  (v := (.int .i64 (s.length : Int))) rfl (x := Value.nilIface) rfl ?_
 have hH16 : Has E w13 [s8, [Hp.one bb (.cells #[(.pointer (some ⟨bb, 0, none⟩)), v7] 249 (0, 0))], R] := (((hH14.front 2 rfl).front 1 rfl).front 2 rfl).first 3 rfl
 exact ⟨_, _, rfl, ho9, fun h => hn10 (hnil (List.append_eq_nil_iff.1 h).1) (List.append_eq_nil_iff.1 h).2, hH16⟩
theorem bs_nil {E w : World} {R : List Hp} {bb : Nat} {a : Value} (hH : Has E w [[Hp.one bb (.cells #[a, (.slice none 0 0)] 249 (0, 0))], R]) :
  Calls Tryz.prog 181 #[(.pointer (some ⟨bb, 0, none⟩))] w fun e w' => e = .returned (S ([] : List UInt8)) ∧ Has E w' [R] := by
 refine zs (args := [(.pointer (some ⟨bb, 0, none⟩))]) Tryz.func181 rfl Tryz.ntmps181 (by simp) ?_
 refine wp_seq_k fun K1 hK1 => ?_
 refine zd ?_
 refine za (o_assign (v := (S ([] : List UInt8))) rfl ?_)
 refine zf ?_
 refine ze (hK1 _ _ ?_)
 refine wp_seq_k fun K2 hK2 => ?_
 refine Rest.region mixed (by kernel_rfl) ?_
 have hH3 : Has E { w with drawn := w.drawn + 1 } [[Hp.one bb (.cells #[a, (.slice none 0 0)] 249 (0, 0))], R] := Has0.drew hH _
 refine Rest.phaseA (fun w_ => Has E w_ [[Hp.one bb (.cells #[a, (.slice none 0 0)] 249 (0, 0))]]) 0 10 10 rfl (by decide) (by kernel_rfl) ?_
 refine zn 0 rfl (by kernel_rfl) (fun w_ h_ => o_move (v := (.pointer (some ⟨bb, 0, none⟩))) rfl ⟨rfl, rfl⟩) ?_
 refine zn 1 rfl (by kernel_rfl) (fun w_ h_ => zl rfl ⟨rfl, rfl⟩) ?_
 refine zn 2 rfl (by kernel_rfl) (fun w_ h_ => zg (k := 1) (fun _ => by kernel_rfl) rfl ⟨rfl, rfl⟩) ?_
 refine zn 3 rfl (by kernel_rfl) (fun w_ h_ => zj (v := (.slice none 0 0)) Tryz.underlying30 rfl rfl h_ (zh 0 rfl) (CellsAt.one rfl) ⟨rfl, rfl⟩) ?_
 refine zn 5 rfl (by kernel_rfl) (fun w_ h_ => o_move (v := (.pointer (some ⟨bb, 0, none⟩))) rfl ⟨rfl, rfl⟩) ?_
 refine zn 6 rfl (by kernel_rfl) (fun w_ h_ => zl rfl ⟨rfl, rfl⟩) ?_
 refine zn 7 rfl (by kernel_rfl) (fun w_ h_ => zg (k := 1) (fun _ => by kernel_rfl) rfl ⟨rfl, rfl⟩) ?_
 refine zn 8 rfl (by kernel_rfl) (fun w_ h_ => zj (v := (.slice none 0 0)) Tryz.underlying30 rfl rfl h_ (zh 0 rfl) (CellsAt.one rfl) ⟨rfl, rfl⟩) ?_
 refine zn 9 rfl (by kernel_rfl) (fun w_ h_ => zQ Tryz.underlying30 rfl (sl_nil (L := []) 1) ⟨rfl, rfl⟩) ?_
 have hH4 : Has E { w with drawn := w.drawn + 1 } [[Hp.one bb (.cells #[a, (.slice none 0 0)] 249 (0, 0))]] := hH3.first 1 rfl
 refine a_w 4 rfl (by kernel_rfl) hH4 (o_uSDnil rfl ?_)
 have hH5 : Has E { w with drawn := w.drawn + 1 } [[Hp.one bb (.cells #[a, (.slice none 0 0)] 249 (0, 0))]] := hH3.first 1 rfl
 refine zM (by kernel_rfl) hH5 ?_
 refine zO 10 rfl (by kernel_rfl) (o_uStrNil rfl rfl ?_)
 refine zO 11 rfl (by kernel_rfl) (o_assign (v := (S ([] : List UInt8))) rfl ?_)
 refine Rest.done (by kernel_rfl) ?_
 refine ze (hK2 _ _ ?_)
 refine wp_ret ?_
 refine zr Tryz.results181  (v := (S ([] : List UInt8))) rfl ?_
 have hH6 : Has E { w with drawn := w.drawn + 1 } [R] := (hH3.front 1 rfl).first 1 rfl
 exact ⟨rfl, hH6⟩
theorem bs_row {E w : World} {R : List Hp} {bb : Nat} {a : Value} {g cap : Nat} {hs : List Hp} {l : List UInt8} (hH : Has E w [hs, [Hp.one bb (.cells #[a, (.slice (some ⟨g, 0, none⟩) l.length cap)] 249 (0, 0))], R]) (ho : Own 5 1 (.slice (some ⟨g, 0, none⟩) l.length cap) l.length (l.map bV) hs) (hne : l ≠ []) (hcap : cap ≠ 0) :
  Calls Tryz.prog 181 #[(.pointer (some ⟨bb, 0, none⟩))] w fun e w' => e = .returned (S l) ∧ Has E w' [R] := by
 refine zs (args := [(.pointer (some ⟨bb, 0, none⟩))]) Tryz.func181 rfl Tryz.ntmps181 (by simp) ?_
 refine wp_seq_k fun K1 hK1 => ?_
 refine zd ?_
 refine za (o_assign (v := (S ([] : List UInt8))) rfl ?_)
 refine zf ?_
 refine ze (hK1 _ _ ?_)
 refine wp_seq_k fun K2 hK2 => ?_
 refine Rest.region mixed (by kernel_rfl) ?_
 have hH3 : Has E { w with drawn := w.drawn + 1 } [hs, [Hp.one bb (.cells #[a, (.slice (some ⟨g, 0, none⟩) l.length cap)] 249 (0, 0))], R] := Has0.drew hH _
 refine Rest.phaseA (fun w_ => Has E w_ [[Hp.one bb (.cells #[a, (.slice (some ⟨g, 0, none⟩) l.length cap)] 249 (0, 0))]]) 0 10 10 rfl (by decide) (by kernel_rfl) ?_
 refine zn 0 rfl (by kernel_rfl) (fun w_ h_ => o_move (v := (.pointer (some ⟨bb, 0, none⟩))) rfl ⟨rfl, rfl⟩) ?_
 refine zn 1 rfl (by kernel_rfl) (fun w_ h_ => zl rfl ⟨rfl, rfl⟩) ?_
 refine zn 2 rfl (by kernel_rfl) (fun w_ h_ => zg (k := 1) (fun _ => by kernel_rfl) rfl ⟨rfl, rfl⟩) ?_
 refine zn 3 rfl (by kernel_rfl) (fun w_ h_ => zj (v := (.slice (some ⟨g, 0, none⟩) l.length cap)) Tryz.underlying30 rfl rfl h_ (zh 0 rfl) (CellsAt.one rfl) ⟨rfl, rfl⟩) ?_
 refine zn 5 rfl (by kernel_rfl) (fun w_ h_ => o_move (v := (.pointer (some ⟨bb, 0, none⟩))) rfl ⟨rfl, rfl⟩) ?_
 refine zn 6 rfl (by kernel_rfl) (fun w_ h_ => zl rfl ⟨rfl, rfl⟩) ?_
 refine zn 7 rfl (by kernel_rfl) (fun w_ h_ => zg (k := 1) (fun _ => by kernel_rfl) rfl ⟨rfl, rfl⟩) ?_
 refine zn 8 rfl (by kernel_rfl) (fun w_ h_ => zj (v := (.slice (some ⟨g, 0, none⟩) l.length cap)) Tryz.underlying30 rfl rfl h_ (zh 0 rfl) (CellsAt.one rfl) ⟨rfl, rfl⟩) ?_
 refine zn 9 rfl (by kernel_rfl) (fun w_ h_ => zQ Tryz.underlying30 rfl ho.sl ⟨rfl, rfl⟩) ?_
 have hH4 : Has E { w with drawn := w.drawn + 1 } [[Hp.one bb (.cells #[a, (.slice (some ⟨g, 0, none⟩) l.length cap)] 249 (0, 0))]] := (hH3.front 1 rfl).first 1 rfl
 refine a_w 4 rfl (by kernel_rfl) hH4 (o_uSD (a := ⟨g, 0, none⟩) rfl hcap ?_)
 have hH5 : Has E { w with drawn := w.drawn + 1 } [[Hp.one bb (.cells #[a, (.slice (some ⟨g, 0, none⟩) l.length cap)] 249 (0, 0))]] := (hH3.front 1 rfl).first 1 rfl
 refine zM (by kernel_rfl) hH5 ?_
 refine zO 10 rfl (by kernel_rfl) (o_uStr Tryz.underlying356 (by kernel_rfl) rfl rfl ho hne hH3 fun w6 hH7 => ?_)
 refine zO 11 rfl (by kernel_rfl) (o_assign (v := (S l)) rfl ?_)
 refine Rest.done (by kernel_rfl) ?_
 refine ze (hK2 _ _ ?_)
 refine wp_ret ?_
 refine zr Tryz.results181  (v := (S l)) rfl ?_
 have hH8 : Has E w6 [R] := (hH7.front 1 rfl).first 1 rfl
 exact ⟨rfl, hH8⟩
def Bld (b : Nat) (l : List UInt8) (sg : List Hp) : Prop := ∃ a v hs, sg = hs ++ [Hp.one b (.cells #[a, v] 249 (0, 0))] ∧ (a = .pointer none ∨ a = .pointer (some ⟨b, 0, none⟩)) ∧ Own 5 1 v l.length (l.map bV) hs ∧ (l = [] → v = .slice none 0 0)
theorem Bld.new (b : Nat) : Bld b [] [Hp.one b (.cells #[.pointer none, .slice none 0 0] 249 (0, 0))] := ⟨_, _, [], rfl, .inl rfl, Own.nil 5 1, fun _ => rfl⟩
theorem bws {E w : World} {R sg : List Hp} {b : Nat} {l : List UInt8} (hH : Has E w [sg, R]) (hB : Bld b l sg) (s : List UInt8) (hb : l.length + s.length ≤ 140737488355328) :
  Calls Tryz.prog 179 #[.pointer (some ⟨b, 0, none⟩), S s] w fun e w' => ∃ sg', e = .returned (.tuple #[.int .i64 (s.length : Int), .nilIface]) ∧ Bld b (l ++ s) sg' ∧ Has E w' [sg', R] := by
 obtain ⟨a, v, hs, rfl, rfl | rfl, ho, hn⟩ := hB
 · exact (ws_f hH.open2 ho hn s hb).mono fun e w' ⟨v', hs', he, ho', hn', hH'⟩ => ⟨_, he, ⟨_, _, _, rfl, .inr rfl, ho', hn'⟩, hH'.close2⟩
 · exact (ws_u hH.open2 ho hn s hb).mono fun e w' ⟨v', hs', he, ho', hn', hH'⟩ => ⟨_, he, ⟨_, _, _, rfl, .inr rfl, ho', hn'⟩, hH'.close2⟩
theorem bstr {E w : World} {R sg : List Hp} {b : Nat} {l : List UInt8} (hH : Has E w [sg, R]) (hB : Bld b l sg) :
  Calls Tryz.prog 181 #[.pointer (some ⟨b, 0, none⟩)] w fun e w' => e = .returned (S l) ∧ Has E w' [R] := by
 obtain ⟨a, v, hs, rfl, _, ho, hn⟩ := hB
 by_cases hl : l = []
 ·
  obtain rfl := hn hl
  subst hl
  exact bs_nil hH.open2.drop
 ·
  have ho2 := ho
  obtain ⟨hlc, ⟨_, h, _⟩ | ⟨g, cap, cur, rfl, rfl, hnc, _⟩⟩ := ho
  · exact absurd (List.eq_nil_of_length_eq_zero h) hl
  · exact bs_row hH.open2 ho2 hl (fun e => hl (List.eq_nil_of_length_eq_zero (by omega)))
end Go.Q
namespace Go.Q
open Go.Proofs
set_option linter.unusedVariables false
set_option maxRecDepth 100000
attribute [local irreducible] wpList OK Code.wp
theorem alen_c {E w : World} {R : List Hp} {ab db : Nat} {fr n : Int} (hH : Has E w [(yo ab #[(yp db), (yi fr), (yi n)] 265), R]) (hn : 1 ≤ n ∧ n ≤ 4096) :
  Calls Tryz.prog 99 #[(yp ab)] w fun e w' => e = .returned (yi (n * 64)) ∧ Has E w' [(yo ab #[(yp db), (yi fr), (yi n)] 265), R] := by
 obtain ⟨hn1, hn2⟩ := hn
 refine zs (args := [(yp ab)]) Tryz.func99 rfl Tryz.ntmps99 (by simp) (yq fun K1 hK1 => (zd (za (zc (yi 0) rfl (zf (ze (hK1 _ _ (yq fun K2 hK2 => (yq fun K3 hK3 => (zd (za (zb (yp ab) rfl (za (o_pnil (p := some _) Tryz.underlying160 rfl rfl (zf (ze (hK3 _ _ (zK rfl rfl (wp_skip ?_)))))))))))))))))))
 refine ze (hK2 _ _ (yq fun K4 hK4 => (zd (za (zb (yp ab) rfl (za (zl rfl (za (zg (k := 2) (fun _ => by kernel_rfl) rfl (za (zj (v := (yi n)) Tryz.underlying3 rfl rfl hH (zh 0 rfl) (CellsAt.one rfl) (za (o_mul (a := n) (b := 64) rfl rfl (w64 (by omega) (by omega)) (za (zc (yi (n * 64)) rfl (zf (ze (hK4 _ _ (wp_ret (zr Tryz.results99  (v := (yi (n * 64))) rfl ?_))))))))))))))))))))
 exact ⟨rfl, hH⟩
theorem amay_c {E w : World} {R : List Hp} {ab db : Nat} {fr n : Int} (hH : Has E w [(yo ab #[(yp db), (yi fr), (yi n)] 265), R]) (hn : 1 ≤ n ∧ n ≤ 4096) (at_ size : Int) :
  Calls Tryz.prog 191 #[(yp ab), (yi at_), (yi size)] w fun e w' => e = .returned (.bool (decide (0 ≤ at_ ∧ at_ ≤ 4611686018427387904 ∧ 0 ≤ size ∧ size ≤ n * 64))) ∧ Has E w' [(yo ab #[(yp db), (yi fr), (yi n)] 265), R] := by
 obtain ⟨hn1, hn2⟩ := hn
 refine zs (args := [(yp ab), (yi at_), (yi size)]) Tryz.func191 rfl Tryz.ntmps191 (by simp) (yq fun K1 hK1 => (zd (za (zc (.bool false) rfl (zf (ze (hK1 _ _ (yq fun K2 hK2 => (zd (za (zb (yp ab) rfl (za (o_pnnil (p := some _) Tryz.underlying160 rfl rfl (za (zb (.bool true) rfl (zo 9 rfl rfl (zb (yi at_) rfl (zo 9 rfl rfl (o_geq (a := at_) (b := 0) rfl rfl (za (zq (u := (.bool (decide (0 ≤ at_)))) rfl rfl (za (zb (.bool (decide (0 ≤ at_))) rfl ?_)))))))))))))))))))))))
 by_cases h3 : 0 ≤ at_
 ·
  refine zo 13 rfl (cT h3) (zb (yi at_) rfl (zo 13 rfl (cT h3) (o_leq (a := at_) (b := 4611686018427387904) rfl rfl (za (zq (u := (.bool (decide (at_ ≤ 4611686018427387904)))) ((rfl : _ = _).trans (cT h3)) rfl (za (zb (.bool (decide (at_ ≤ 4611686018427387904))) rfl ?_)))))))
  by_cases h4 : at_ ≤ 4611686018427387904
  ·
   refine zo 17 rfl (cT h4) (zb (yi size) rfl (zo 17 rfl (cT h4) (o_geq (a := size) (b := 0) rfl rfl (za (zq (u := (.bool (decide (0 ≤ size)))) ((rfl : _ = _).trans (cT h4)) rfl (za (zb (.bool (decide (0 ≤ size))) rfl ?_)))))))
   by_cases h5 : 0 ≤ size
   ·
    refine zo 21 rfl (cT h5) (zb (yi size) rfl (zo 21 rfl (cT h5) (zb (yp ab) rfl (zo 21 rfl (cT h5) (zk (vs := #[(yp ab)]) ca99 rfl (zI rfl) (alen_c hH.all1 ⟨by omega, by omega⟩) ?_)))))
    rintro _ w8 ⟨rfl, hX6⟩
    refine ⟨_, rfl, ?_⟩
    have hH7 := hX6.of_all1
    refine zo 21 rfl (cT h5) (o_leq (a := size) (b := n * 64) rfl rfl (za (zq (u := (.bool (decide (size ≤ n * 64)))) ((rfl : _ = _).trans (cT h5)) rfl (za (zc (.bool (decide (size ≤ n * 64))) rfl (zf (ze (hK2 _ _ (wp_ret (zr Tryz.results191  (v := (.bool (decide (size ≤ n * 64)))) rfl ?_))))))))))
    have e_ : decide (size ≤ n * 64) = decide (0 ≤ at_ ∧ at_ ≤ 4611686018427387904 ∧ 0 ≤ size ∧ size ≤ n * 64) := by first | (simp [h3, h4, h5]; done) | (rw [eq_comm, decide_eq_false_iff_not]; omega) | (rw [eq_comm, decide_eq_true_iff]; omega) | (congr 1; apply propext; constructor <;> intro _ <;> first | omega | (refine ⟨?_, ?_, ?_, ?_⟩ <;> omega))
    exact ⟨by rw [← e_], hH7⟩
   ·
    refine zi (b' := false) 21 rfl (cF h5) rfl (zi (b' := false) 21 rfl (cF h5) rfl (zi (b' := false) 21 rfl (cF h5) rfl (zi (b' := false) 21 rfl (cF h5) rfl (za (zm (u := (.bool false)) ((rfl : _ = _).trans (cF h5)) rfl (za (zc (.bool false) rfl (zf (ze (hK2 _ _ (wp_ret (zr Tryz.results191  (v := (.bool false)) rfl ?_))))))))))))
    have e_ : false = decide (0 ≤ at_ ∧ at_ ≤ 4611686018427387904 ∧ 0 ≤ size ∧ size ≤ n * 64) := by first | (simp [h3, h4, h5]; done) | (rw [eq_comm, decide_eq_false_iff_not]; omega) | (rw [eq_comm, decide_eq_true_iff]; omega) | (congr 1; apply propext; constructor <;> intro _ <;> first | omega | (refine ⟨?_, ?_, ?_, ?_⟩ <;> omega))
    exact ⟨by rw [← e_], hH⟩
  ·
   refine zi (b' := false) 17 rfl (cF h4) rfl (zi (b' := false) 17 rfl (cF h4) rfl (za (zm (u := (.bool false)) ((rfl : _ = _).trans (cF h4)) rfl (za (zb (.bool false) rfl (zi (b' := false) 21 rfl rfl rfl (zi (b' := false) 21 rfl rfl rfl (zi (b' := false) 21 rfl rfl rfl (zi (b' := false) 21 rfl rfl rfl (za (zm (u := (.bool false)) rfl rfl (za (zc (.bool false) rfl (zf (ze (hK2 _ _ (wp_ret (zr Tryz.results191  (v := (.bool false)) rfl ?_))))))))))))))))))
   have e_ : false = decide (0 ≤ at_ ∧ at_ ≤ 4611686018427387904 ∧ 0 ≤ size ∧ size ≤ n * 64) := by first | (simp [h3, h4]; done) | (rw [eq_comm, decide_eq_false_iff_not]; omega) | (rw [eq_comm, decide_eq_true_iff]; omega) | (congr 1; apply propext; constructor <;> intro _ <;> first | omega | (refine ⟨?_, ?_, ?_, ?_⟩ <;> omega))
   exact ⟨by rw [← e_], hH⟩
 ·
  refine zi (b' := false) 13 rfl (cF h3) rfl (zi (b' := false) 13 rfl (cF h3) rfl (za (zm (u := (.bool false)) ((rfl : _ = _).trans (cF h3)) rfl (za (zb (.bool false) rfl (zi (b' := false) 17 rfl rfl rfl (zi (b' := false) 17 rfl rfl rfl (za (zm (u := (.bool false)) rfl rfl (za (zb (.bool false) rfl (zi (b' := false) 21 rfl rfl rfl (zi (b' := false) 21 rfl rfl rfl (zi (b' := false) 21 rfl rfl rfl (zi (b' := false) 21 rfl rfl rfl (za (zm (u := (.bool false)) rfl rfl (za (zc (.bool false) rfl (zf ?_))))))))))))))))))))
  refine ze (hK2 _ _ (wp_ret (zr Tryz.results191  (v := (.bool false)) rfl ?_)))
  have e_ : false = decide (0 ≤ at_ ∧ at_ ≤ 4611686018427387904 ∧ 0 ≤ size ∧ size ≤ n * 64) := by first | (simp [h3]; done) | (rw [eq_comm, decide_eq_false_iff_not]; omega) | (rw [eq_comm, decide_eq_true_iff]; omega) | (congr 1; apply propext; constructor <;> intro _ <;> first | omega | (refine ⟨?_, ?_, ?_, ?_⟩ <;> omega))
  exact ⟨by rw [← e_], hH⟩
theorem pieces_c {E w : World} {R : List Hp} {ab db : Nat} {fr n : Int} (hH : Has E w [(yo ab #[(yp db), (yi fr), (yi n)] 265), R]) (hn : 1 ≤ n ∧ n ≤ 4096) (hfr : 0 ≤ fr ∧ fr ≤ 4096) {at_ size : Int} (hat : 0 ≤ at_ ∧ at_ ≤ 4611686018427387904) (hsz : 0 ≤ size ∧ size ≤ n * 64) :
  Calls Tryz.prog 192 #[(yp ab), (yi at_), (yi size)] w fun e w' => ∃ v' hs', e = .returned v' ∧ Own 269 3 v' (allP fr (n * 64) (at_ % (n * 64)) size).length ((allP fr (n * 64) (at_ % (n * 64)) size).flatMap pcC) hs' ∧ Has E w' [hs', (yo ab #[(yp db), (yi fr), (yi n)] 265), R] := by
 obtain ⟨hn1, hn2⟩ := hn
 obtain ⟨hfr1, hfr2⟩ := hfr
 obtain ⟨hat1, hat2⟩ := hat
 obtain ⟨hsz1, hsz2⟩ := hsz
 refine zs (args := [(yp ab), (yi at_), (yi size)]) Tryz.func192 rfl Tryz.ntmps192 (by simp) (yq fun K1 hK1 => (zd (za (zc (.slice none 0 0) rfl (zf (ze (hK1 _ _ (yq fun K2 hK2 => (zd (za (zc (.slice none 0 0) rfl (zf (ze (hK2 _ _ (yq fun K3 hK3 => (yq fun K4 hK4 => (zd (za (zb (yi at_) rfl ?_)))))))))))))))))))
 refine za (zb (yp ab) rfl (za (zk (vs := #[(yp ab)]) ca99 rfl (zI rfl) (alen_c hH.all1 ⟨by omega, by omega⟩) ?_)))
 rintro _ w7 ⟨rfl, hX5⟩
 refine ⟨_, rfl, ?_⟩
 have hH6 := hX5.of_all1
 have hm8 := emod_b at_ (n * 64) (by omega)
 refine za (o_rem (a := at_) (b := n * 64) (c := at_ % (n * 64)) rfl rfl (by omega) ((Int.tmod_eq_emod_of_nonneg (by first | exact Int.natCast_nonneg _ | omega))) (za (zc (yi (at_ % (n * 64))) rfl (zf (ze (hK4 _ _ (wp_block ?_)))))))
 let I10 : Nat → (Nat → Value) → World → Prop := fun n__ r__ w__ => ∃ (a : Int) (z : Int) (va : Value) (ha : List Hp) (acc : List Pc), n__ = z.toNat ∧ Has E w__ [ha, (yo ab #[(yp db), (yi fr), (yi n)] 265), R] ∧ (0 ≤ z ∧ z ≤ size) ∧ (0 ≤ a ∧ a < n * 64) ∧ (Own 269 3 va acc.length (acc.flatMap pcC) ha) ∧ ((acc.length : Int) + z ≤ size) ∧ (allP fr (n * 64) (at_ % (n * 64)) size = acc ++ allP fr (n * 64) a z) ∧ r__ 0 = (yp ab) ∧ r__ 1 = (yi a) ∧ r__ 2 = (yi z) ∧ r__ 6 = (.slice none 0 0) ∧ r__ 7 = va
 have hH11 := (Has.nil ((hH6.front 1 rfl).front 1 rfl)).first 3 rfl
 refine zX I10 _ ⟨(at_ % (n * 64)), size, (.slice none 0 0), [], [], rfl, hH11, ⟨by omega, by omega⟩, ⟨Int.emod_nonneg _ (by omega), Int.emod_lt_of_pos _ (by omega)⟩, Own.nil 269 3, (by simp), rfl, rfl, rfl, rfl, rfl, rfl⟩ ?_
 rintro n_ r14 w12 ⟨a, z, va, ha, acc, rfl, hH13, hz, ha_, hoa, hct, hacc, e9_0, e9_1, e9_2, e9_6, e9_7⟩
 refine yq fun K15 hK15 => (yq fun K16 hK16 => (zd (za (zb (yi z) e9_2 (za (o_gtr (a := z) (b := 0) rfl rfl (zf (ze (hK16 _ _ (zt rfl (fun h17 => ?_) (fun h17 => ?_)))))))))))
 ·
  refine wp_skip (ze (hK15 _ _ (yq fun K18 hK18 => (wp_block (yq fun K19 hK19 => (zd (za (zb (yp ab) e9_0 (za (zl rfl (za (zg (k := 1) (fun _ => by kernel_rfl) rfl (za (zj (v := (yi fr)) Tryz.underlying3 rfl rfl hH13 (zh 1 rfl) (CellsAt.one rfl) (za (zb (yi a) e9_1 (za (o_quo (a := a) (b := 64) (c := a / 64) rfl rfl (by omega) (by rw [(Int.tdiv_eq_ediv_of_nonneg (by first | exact Int.natCast_nonneg _ | omega))]; exact w64 (by omega) (by omega)) (za (zD (a := fr) (b := a / 64) rfl rfl (w64 (by omega) (by omega)) (za (zb (yi a) e9_1 (za (o_rem (a := a) (b := 64) (c := a % 64) rfl rfl (by omega) ((Int.tmod_eq_emod_of_nonneg (by first | exact Int.natCast_nonneg _ | omega))) ?_))))))))))))))))))))))))
  refine za (zJ (v := (.agg #[(yi (fr + (a / 64))), (yi (a % 64)), (yi 0)])) (fun _ => by kernel_rfl) (za (zU (cs := #[(yi 0), (yi 0), (yi 0)]) ti269 rfl hH13 fun b20 w21 hH22 => (zB (zv (vs := [(yi (fr + (a / 64))), (yi (a % 64)), (yi 0)]) (c' := #[(yi (fr + (a / 64))), (yi (a % 64)), (yi 0)]) ti269 rfl rfl rfl rfl (by intro u hu; simp only [List.mem_cons, List.not_mem_nil, or_false] at hu; rcases hu with rfl | rfl | rfl <;> first | rfl) (by simp) (by kernel_rfl) (hH22.front 0 rfl) fun w23 hH24 => (zf (ze (hK19 _ _ (yq fun K25 hK25 => (zd (za (zg (k := 1) (fun _ => by kernel_rfl) rfl (za (zj (v := (yi (a % 64))) Tryz.underlying3 rfl rfl hH24 (zh 0 rfl) (CellsAt.one rfl) (za (zb (yi z) e9_2 (za (zD (a := a % 64) (b := z) rfl rfl (w64 (by omega) (by omega)) (za (o_min (a := (a % 64) + z) (b := 64) rfl rfl (za (zg (k := 2) (fun _ => by kernel_rfl) rfl (zB (zH (c' := #[(yi (fr + (a / 64))), (yi (a % 64)), (yi (min ((a % 64) + z) 64))]) ti3 rfl rfl rfl (by simp) rfl (hH24.front 0 rfl) fun w26 hH27 => (zf ?_)))))))))))))))))))))))))
  refine ze (hK25 _ _ (yq fun K28 hK28 => (zd (za (zb va e9_7 (za (zG (cs := [(yi (fr + (a / 64))), (yi (a % 64)), (yi (min ((a % 64) + z) 64))]) Tryz.underlying269 rfl ti269 rfl hH27 (zh 0 rfl) (CellsAt.one rfl) (za (zw (ps := #[(0, (.agg #[(yi (fr + (a / 64))), (yi (a % 64)), (yi (min ((a % 64) + z) 64))]))]) (cells := #[(yi (fr + (a / 64))), (yi (a % 64)), (yi (min ((a % 64) + z) 64))]) Tryz.underlying266 ti269 (by decide) (yb rfl) (by kernel_rfl) hH27 fun b29 w30 hH31 => (za (o_append Tryz.underlying266 ti269 rfl (by decide) rfl hoa rfl (sl_litF (f := pcC) (l := [(Pc.mk (fr + (a / 64)) (a % 64) (min ((a % 64) + z) 64))]) pcC_len rfl rfl (by simp)) (hH31.front 2 rfl) (zh 0 rfl) (one_pcC _) (by simp; omega) (by simp; omega) fun v32 s33 w35 ho34 hH36 => ?_)))))))))))
  have ho34 : Own 269 3 v32 (acc ++ [(Pc.mk (fr + (a / 64)) (a % 64) (min ((a % 64) + z) 64))]).length ((acc ++ [(Pc.mk (fr + (a / 64)) (a % 64) (min ((a % 64) + z) 64))]).flatMap pcC) s33 := ho34.appF
  refine za (zc v32 rfl (zf (ze (hK28 _ _ (yq fun K37 hK37 => (zd (za (zb (yi a) e9_1 (za (zg (k := 2) (fun _ => by kernel_rfl) rfl (za (zj (v := (yi (min ((a % 64) + z) 64))) Tryz.underlying3 rfl rfl hH36 (zh 2 rfl) (CellsAt.one rfl) (za (zg (k := 1) (fun _ => by kernel_rfl) rfl (za (zj (v := (yi (a % 64))) Tryz.underlying3 rfl rfl hH36 (zh 2 rfl) (CellsAt.one rfl) (za (o_sub (a := min ((a % 64) + z) 64) (b := a % 64) rfl rfl (w64 (by omega) (by omega)) (za (zD (a := a) (b := (min ((a % 64) + z) 64) - (a % 64)) rfl rfl (w64 (by omega) (by omega)) (za (zc (yi (a + ((min ((a % 64) + z) 64) - (a % 64)))) rfl (zf (ze (hK37 _ _ ?_)))))))))))))))))))))))))
  refine zd (za (zb (yi z) e9_2 (za (zg (k := 2) (fun _ => by kernel_rfl) rfl (za (zj (v := (yi (min ((a % 64) + z) 64))) Tryz.underlying3 rfl rfl hH36 (zh 2 rfl) (CellsAt.one rfl) (za (zg (k := 1) (fun _ => by kernel_rfl) rfl (za (zj (v := (yi (a % 64))) Tryz.underlying3 rfl rfl hH36 (zh 2 rfl) (CellsAt.one rfl) (za (o_sub (a := min ((a % 64) + z) 64) (b := a % 64) rfl rfl (w64 (by omega) (by omega)) (za (o_sub (a := z) (b := (min ((a % 64) + z) 64) - (a % 64)) rfl rfl (w64 (by omega) (by omega)) (za (zc (yi (z - ((min ((a % 64) + z) 64) - (a % 64)))) rfl (zf (zC (ze (hK18 _ _ (zd (za (zb (yi (a + ((min ((a % 64) + z) 64) - (a % 64)))) rfl (za (zb (yp ab) e9_0 ?_)))))))))))))))))))))))))
  refine za (zk (vs := #[(yp ab)]) ca99 rfl (zI rfl) (alen_c (hH36.front 3 rfl).all1 ⟨by omega, by omega⟩) ?_)
  rintro _ w40 ⟨rfl, hX38⟩
  refine ⟨_, rfl, ?_⟩
  have hH39 := hX38.of_all1
  have hm41 := emod_b (a + ((min ((a % 64) + z) 64) - (a % 64))) (n * 64) (by omega)
  refine za (o_rem (a := a + ((min ((a % 64) + z) 64) - (a % 64))) (b := n * 64) (c := (a + ((min ((a % 64) + z) 64) - (a % 64))) % (n * 64)) rfl rfl (by omega) ((Int.tmod_eq_emod_of_nonneg (by first | exact Int.natCast_nonneg _ | omega))) (za (zc (yi ((a + ((min ((a % 64) + z) 64) - (a % 64))) % (n * 64))) rfl (zf ?_))))
  have hH42 := (((hH39.front 4 rfl).front 1 rfl).front 2 rfl).first 3 rfl
  refine ze ⟨(z - ((min ((a % 64) + z) 64) - (a % 64))).toNat, _, rfl, ?_, ?_⟩
  · omega
  · exact ⟨((a + ((min ((a % 64) + z) 64) - (a % 64))) % (n * 64)), (z - ((min ((a % 64) + z) 64) - (a % 64))), v32, s33, (acc ++ [(Pc.mk (fr + (a / 64)) (a % 64) (min ((a % 64) + z) 64))]), rfl, hH42, (⟨by omega, by omega⟩), (⟨Int.emod_nonneg _ (by omega), Int.emod_lt_of_pos _ (by omega)⟩), (ho34), (by simp only [List.length_append, List.length_cons, List.length_nil]; omega), (by rw [hacc, allP_step (by omega) ha_.1 (by omega)]; exact (List.append_assoc acc [piece1 fr a z] (allP _ _ _ _)).symm), e9_0, rfl, rfl, e9_6, rfl⟩
 ·
  refine wp_exit (zy (zy (x_in ((ze (hK3 _ _ (yq fun K43 hK43 => (zd (za (zb va e9_7 (za (zc va rfl (zf (ze (hK43 _ _ (wp_ret (zr Tryz.results192  (v := va) rfl ?_)))))))))))))))))
  have e_ : allP fr (n * 64) a z = [] := allP_none (by omega)
  rw [e_, List.append_nil] at hacc
  exact ⟨_, _, rfl, by rw [hacc]; exact hoa, hH13⟩
end Go.Q
namespace Go.Q
open Go.Proofs
set_option linter.unusedVariables false
set_option maxRecDepth 100000
attribute [local irreducible] wpList OK Code.wp
theorem dset_c {E w : World} {R sg : List Hp} {pb db ab : Nat} {d : Dv} {fr n : Int} (hH : Has E w [sg, (yP pb d.p), (yo ab #[(yp db), (yi fr), (yi n)] 265), R]) (hd : DevAt pb sg db d.la d.lo) {k : Nat} (hf : Few d.p k) (hk : k ≤ 500000) (h4 : d.la.length ≤ 4096) (h64 : Full64 d.la) (hlk : LoOk d.lo d.la.length) (hfr : 0 ≤ fr) (hn : 1 ≤ n) (hfn : fr + n ≤ d.la.length) {at_ : Int} {v : Value} {data : List Bs} (hv : Sl R 1 v data.length (data.map sV)) (hdn : data.length ≤ 100000) (hdl : data.flatten.length ≤ 100000000) :
  Calls Tryz.prog 108 #[(yp ab), (yi at_), v] w fun e w' => ∃ sg', e = .returned (yi (setA d fr n at_ data.flatten).1) ∧ DevAt pb sg' db (setA d fr n at_ data.flatten).2.la (setA d fr n at_ data.flatten).2.lo ∧ Has E w' [sg', (yP pb ((setA d fr n at_ data.flatten).2).p), (yo ab #[(yp db), (yi fr), (yi n)] 265), R] := by
 have hz0_ : (0 : Int) ≤ (data.flatten.length : Int) := by omega
 refine zs (args := [(yp ab), (yi at_), v]) Tryz.func108 rfl Tryz.ntmps108 (by simp) (yq fun K1 hK1 => (zd (za (zc (yi 0) rfl (zf (ze (hK1 _ _ (yq fun K2 hK2 => (zd (za (zc (yi 0) rfl (zf (ze (hK2 _ _ (yq fun K3 hK3 => (yq fun K4 hK4 => (zd (za (zb v rfl ?_)))))))))))))))))))
 refine za (zQ Tryz.underlying46 rfl hv (za (zb (yi 0) rfl (zf (ze (hK4 _ _ (wp_block ?_)))))))
 let I6 : Nat → (Nat → Value) → World → Prop := fun n__ r__ w__ => ∃ (i : Nat) (z : Int), n__ = data.length - i ∧ Has E w__ [sg, (yP pb d.p), (yo ab #[(yp db), (yi fr), (yi n)] 265), R] ∧ (i ≤ data.length) ∧ (z = ((data.take i).flatten.length : Int)) ∧ r__ 0 = (yp ab) ∧ r__ 1 = (yi at_) ∧ r__ 2 = v ∧ r__ 6 = (yi 0) ∧ r__ 7 = (yi z) ∧ r__ 17 = v ∧ r__ 18 = (yi ((data.length : Nat) : Int)) ∧ r__ 19 = (yi (i : Int))
 refine zX I6 _ ⟨0, 0, rfl, hH, Nat.zero_le _, (by simp), rfl, rfl, rfl, rfl, rfl, rfl, rfl, rfl⟩ ?_
 rintro n_ r9 w7 ⟨i, z, rfl, hH8, hi, hz, e5_0, e5_1, e5_2, e5_6, e5_7, e5_17, e5_18, e5_19⟩
 have hzl := flat_take_le data i
 refine yq fun K10 hK10 => (zd (za (zL (a := (i : Int)) (b := ((data.length : Nat) : Int)) e5_19 e5_18 (zf (ze (hK10 _ _ (yq fun K11 hK11 => (zt rfl (fun h12 => ?_) (fun h12 => ?_)))))))))
 ·
  refine wp_skip (ze (hK11 _ _ (yq fun K13 hK13 => (wp_block (yq fun K14 hK14 => (zd ?_))))))
  obtain ⟨x18, hx19⟩ : ∃ x_, data[((i : Int)).toNat]? = some x_ := zN (by omega)
  refine za (z6 Tryz.underlying46 ti9 e5_17 hv e5_19 (by omega) hx19 fun b15 o16 hc17 => (za (zj (v := (S x18)) Tryz.underlying9 rfl rfl hH8 (zh 3 rfl) hc17 (za (zc (S x18) rfl (zf (ze (hK14 _ _ (zd (za (zb (yi z) e5_7 (za (zb (S x18) rfl (za (z8 Tryz.underlying9 rfl (za (zw (ps := #[(0, (yi z)), (1, (yi (x18.length : Int)))]) (cells := #[(yi z), (yi (x18.length : Int))]) Tryz.underlying47 ti3 (by decide) (parts2 rfl rfl) (by kernel_rfl) hH8 fun b20 w21 hH22 => ?_)))))))))))))))))
  have hxl_ := flat_take_le data (i + 1)
  rw [flatten_take_succ (show data[i]? = some _ from hx19), List.length_append] at hxl_
  refine za (zk (vs := #[(.slice (some ⟨b20, 0, none⟩) 2 2)]) ca198 rfl (zI rfl) ((by have h_ := sum_c hH22.all (l := [z, (x18.length : Int)]) ((zW (f := iV) (l := [z, (x18.length : Int)]) rfl rfl (by simp)).mono (zh 0 rfl)); rwa [sum2 ⟨by omega, by omega⟩ ⟨by omega, by omega⟩] at h_)) ?_)
  rintro _ w25 ⟨rfl, hX23⟩
  refine ⟨_, rfl, ?_⟩
  have hH24 := hX23.of_all
  refine za (zc (yi (z + (x18.length : Int))) rfl (zf (zC (ze (hK13 _ _ (zd (za (zD (a := (i : Int)) (b := 1) e5_19 rfl (w64 (by omega) (by omega)) (za (zb (yi ((i : Int) + 1)) rfl (zf ?_)))))))))))
  have hH26 := ((((hH24.front 4 rfl).front 4 rfl).front 4 rfl).front 4 rfl).first 4 rfl
  refine ze ⟨data.length - (i + 1), _, rfl, ?_, ?_⟩
  · omega
  · exact ⟨(i + 1), (z + (x18.length : Int)), rfl, hH26, (by omega), (by rw [flatten_take_succ (show data[i]? = some _ from hx19), List.length_append]; omega), e5_0, e5_1, e5_2, e5_6, rfl, e5_17, e5_18, rfl⟩
 ·
  refine wp_exit (zy (zy (x_in ((ze (hK3 _ _ (yq fun K27 hK27 => (yq fun K28 hK28 => (zd (za (zb (yp ab) e5_0 (za (zb (yi at_) e5_1 (za (zb (yi z) e5_7 (za (zk (vs := #[(yp ab), (yi at_), (yi z)]) ca191 rfl (args3 rfl rfl rfl) (amay_c (hH8.front 2 rfl).all1 ⟨by omega, by omega⟩ at_ z) ?_)))))))))))))))))
  rintro _ w31 ⟨rfl, hX29⟩
  refine ⟨_, rfl, ?_⟩
  have hH30 : Has E w31 [(yo ab #[(yp db), (yi fr), (yi n)] 265), sg, (yP pb d.p), R] := hX29.of_all1
  refine za (o_not2 (b := decide (0 ≤ at_ ∧ at_ ≤ 4611686018427387904 ∧ 0 ≤ z ∧ z ≤ n * 64)) (b' := decide (¬ (0 ≤ at_ ∧ at_ ≤ 4611686018427387904 ∧ 0 ≤ z ∧ z ≤ n * 64))) rfl not_dec (zf (ze (hK28 _ _ (zt rfl (fun h32 => ?_) (fun h32 => ?_))))))
  ·
   have hzz : z = (data.flatten.length : Int) := by rw [hz, show i = data.length by omega, List.take_of_length_le (Nat.le_refl _)]
   refine yq fun K33 hK33 => (zd (za (zc (yi 1) rfl (zf (ze (hK33 _ _ (wp_ret (zx (zr Tryz.results108  (v := (yi 1)) rfl ?_)))))))))
   have hH34 := ((((hH30.front 3 rfl).front 1 rfl).front 3 rfl).front 3 rfl).first 4 rfl
   have hE_ : (setA d fr n at_ data.flatten) = (1, d) := if_neg (show ¬ mayA n at_ (data.flatten.length : Int) by rw [← hzz]; exact h32)
   exact ⟨_, by rw [hE_], by rw [hE_]; exact hd, by rw [hE_]; exact hH34⟩
  ·
   have hzz : z = (data.flatten.length : Int) := by rw [hz, show i = data.length by omega, List.take_of_length_le (Nat.le_refl _)]
   obtain ⟨hat1, hat2, hsz1, hsz2⟩ := Classical.not_not.1 h32
   refine wp_skip (ze (hK27 _ _ (yq fun K35 hK35 => (yq fun K36 hK36 => (zd (za (zb (yp ab) e5_0 (za (zl rfl (za (zg (k := 0) (fun _ => by kernel_rfl) rfl (za (zj (v := (yp db)) Tryz.underlying25 rfl rfl hH30 (zh 0 rfl) (CellsAt.one rfl) (za (zk (vs := #[(yp db)]) ca186 rfl (zI rfl) (don_d (p := d.p) (la := d.la) (lo := d.lo) ((hH30.front 2 rfl).front 2 rfl).all2 hd ) ?_)))))))))))))))
   rintro _ w39 ⟨rfl, hX37⟩
   refine ⟨_, rfl, ?_⟩
   have hH38 : Has E w39 [sg, (yP pb d.p), (yo ab #[(yp db), (yi fr), (yi n)] 265), R] := hX37.of_all2
   refine za (o_not rfl (zf (ze (hK36 _ _ (z7 rfl (fun h40 => ?_) (fun h40 => ?_))))))
   ·
    have h40_n : (!d.p.off) = false := by first | simpa using h40 | exact Bool.of_not_eq_true (fun g_ => by rw [g_] at h40; cases h40)
    have h40_n_n : d.p.off = true := by first | simpa using h40_n | exact Bool.of_not_eq_false (fun g_ => by rw [g_] at h40_n; cases h40_n)
    refine yq fun K41 hK41 => (zd (za (zc (yi 6) rfl (zf (ze (hK41 _ _ (wp_ret (zx (zr Tryz.results108  (v := (yi 6)) rfl ?_)))))))))
    have hE_ : (setA d fr n at_ data.flatten) = (6, d) := (if_pos (show mayA n at_ (data.flatten.length : Int) by rw [← hzz]; exact Classical.not_not.1 h32)).trans (if_pos (by simpa using h40))
    exact ⟨_, by rw [hE_], by rw [hE_]; exact hd, by rw [hE_]; exact hH38⟩
   ·
    have h40_n : (!d.p.off) = true := by first | simpa using h40 | exact Bool.of_not_eq_false (fun g_ => by rw [g_] at h40; cases h40)
    have h40_n_n : d.p.off = false := by first | simpa using h40_n | exact Bool.of_not_eq_true (fun g_ => by rw [g_] at h40_n; cases h40_n)
    refine wp_skip (ze (hK35 _ _ (yq fun K42 hK42 => (zd (za (zb v e5_2 (za (zk (vs := #[v, (S ([] : List UInt8))]) ca118 rfl (zF rfl rfl) (join_c hH38.all (l := data) (hv.mono (zh 3 rfl)) (by first | omega | simp) (by first | omega | (simp only [List.flatten_cons, List.flatten_nil, List.length_append, List.length_take, List.length_drop, List.length_nil]; omega))) ?_))))))))
    rintro _ w45 ⟨rfl, hX43⟩
    refine ⟨_, rfl, ?_⟩
    have hH44 := hX43.of_all
    refine za (zc (S data.flatten) rfl (zf (ze (hK42 _ _ (yq fun K46 hK46 => (yq fun K47 hK47 => (zd (za (zb (yp ab) e5_0 (za (zb (yi at_) e5_1 (za (zb (yi z) e5_7 (za (zk (vs := #[(yp ab), (yi at_), (yi z)]) ca192 rfl (args3 rfl rfl rfl) (pieces_c (hH44.front 2 rfl).all1 ⟨by omega, by omega⟩ ⟨by omega, by omega⟩ (at_ := at_) (size := z) ⟨by omega, by omega⟩ ⟨by omega, by omega⟩) ?_)))))))))))))))
    rintro _ w53 ⟨v48, s49, rfl, ho50, hX51⟩
    refine ⟨_, rfl, ?_⟩
    have hH52 := hX51.of_all2
    refine za (zQ Tryz.underlying266 rfl ho50.sl (za (zb (yi 0) rfl (zf (ze (hK47 _ _ (wp_block ?_)))))))
    have hpl := pieces_count (fr := fr) (L := n * 64) z.toNat (at_ % (n * 64)) z
    have hpk : ∀ p ∈ (allP fr (n * 64) (at_ % (n * 64)) z), PcOk fr n p := pieces_ok (fr := fr) (n := n) (by omega) z.toNat (at_ % (n * 64)) z (Int.emod_nonneg _ (by omega)) (Int.emod_lt_of_pos _ (by omega))
    have hpe : (allP fr (n * 64) (at_ % (n * 64)) z).length ≤ z.toNat := hpl
    have hpn : plen (allP fr (n * 64) (at_ % (n * 64)) z) = z := pieces_len (by omega) _ _ _ (Int.emod_nonneg _ (by omega)) (by omega) (Nat.le_refl _)
    have hon_ : d.p.off = false := by simpa using h40
    let I55 : Nat → (Nat → Value) → World → Prop := fun n__ r__ w__ => ∃ (j : Nat) (rest : Bs) (dc : Dv) (sgc : List Hp), n__ = (allP fr (n * 64) (at_ % (n * 64)) z).length - j ∧ Has E w__ [sgc, (yP pb dc.p), s49, (yo ab #[(yp db), (yi fr), (yi n)] 265), R] ∧ (j ≤ (allP fr (n * 64) (at_ % (n * 64)) z).length) ∧ (DevAt pb sgc db dc.la dc.lo) ∧ (dc.la = d.la) ∧ (LoOk dc.lo dc.la.length) ∧ (Few dc.p (k + j)) ∧ (dc.p.off = false) ∧ ((rest.length : Int) = plen ((allP fr (n * 64) (at_ % (n * 64)) z).drop j)) ∧ (asetD (allP fr (n * 64) (at_ % (n * 64)) z) d data.flatten = asetD ((allP fr (n * 64) (at_ % (n * 64)) z).drop j) dc rest) ∧ r__ 0 = (yp ab) ∧ r__ 1 = (yi at_) ∧ r__ 2 = v ∧ r__ 7 = (yi z) ∧ r__ 10 = (S rest) ∧ r__ 17 = v ∧ r__ 18 = (yi ((data.length : Nat) : Int)) ∧ r__ 19 = (yi (i : Int)) ∧ r__ 20 = (.bool (decide ((i : Int) < ((data.length : Nat) : Int)))) ∧ r__ 33 = (.bool (decide (¬ (0 ≤ at_ ∧ at_ ≤ 4611686018427387904 ∧ 0 ≤ z ∧ z ≤ n * 64)))) ∧ r__ 39 = (.bool (!(!d.p.off))) ∧ r__ 45 = v48 ∧ r__ 46 = (yi (((allP fr (n * 64) (at_ % (n * 64)) z).length : Nat) : Int)) ∧ r__ 47 = (yi (j : Int))
    have hH56 := (((((hH52.front 4 rfl).front 2 rfl).front 2 rfl).front 4 rfl).front 4 rfl).first 5 rfl
    refine zX I55 _ ⟨0, data.flatten, d, sg, rfl, hH56, Nat.zero_le _, hd, rfl, hlk, hf, hon_, (by rw [List.drop_zero, hpn]; omega), rfl, e5_0, e5_1, e5_2, e5_7, rfl, e5_17, e5_18, e5_19, rfl, rfl, rfl, rfl, rfl, rfl⟩ ?_
    rintro n_ r59 w57 ⟨j, rest, dc, sgc, rfl, hH58, hj, hdc, hla2, hlc2, hfc, hon2, hrest, hst, e54_0, e54_1, e54_2, e54_7, e54_10, e54_17, e54_18, e54_19, e54_20, e54_33, e54_39, e54_45, e54_46, e54_47⟩
    refine yq fun K60 hK60 => (zd (za (zL (a := (j : Int)) (b := (((allP fr (n * 64) (at_ % (n * 64)) z).length : Nat) : Int)) e54_47 e54_46 (zf (ze (hK60 _ _ (yq fun K61 hK61 => (zt rfl (fun h62 => ?_) (fun h62 => ?_)))))))))
    ·
     refine wp_skip (ze (hK61 _ _ (yq fun K63 hK63 => (wp_block (yq fun K64 hK64 => (zd ?_))))))
     obtain ⟨x68, hx69⟩ : ∃ x_, (allP fr (n * 64) (at_ % (n * 64)) z)[((j : Int)).toNat]? = some x_ := zN (by omega)
     refine za (o_indexF pcC_len Tryz.underlying266 ti269 e54_45 ho50.sl rfl e54_47 (by omega) hx69 fun b65 o66 hc67 => (za (zG (cs := [(yi x68.sec), (yi x68.frm), (yi x68.upto)]) Tryz.underlying269 rfl ti269 rfl hH58 (zh 2 rfl) hc67 (za (zU (cs := #[(yi 0), (yi 0), (yi 0)]) ti269 rfl hH58 fun b70 w71 hH72 => (zB (zv (vs := [(yi x68.sec), (yi x68.frm), (yi x68.upto)]) (c' := #[(yi x68.sec), (yi x68.frm), (yi x68.upto)]) ti269 rfl rfl rfl rfl (by intro u hu; simp only [List.mem_cons, List.not_mem_nil, or_false] at hu; rcases hu with rfl | rfl | rfl <;> first | rfl) (by simp) (by kernel_rfl) (hH72.front 0 rfl) fun w73 hH74 => (zf (ze (hK64 _ _ (yq fun K75 hK75 => (Rest.region mixed (by kernel_rfl) ?_))))))))))))
     have hH76 : Has E { w73 with drawn := w73.drawn + 1 } [(yo b70 #[(yi x68.sec), (yi x68.frm), (yi x68.upto)] 269), sgc, (yP pb dc.p), s49, (yo ab #[(yp db), (yi fr), (yi n)] 265), R] := Has0.drew hH74 _
     refine Rest.phaseA (fun w_ => Has E w_ [(yo b70 #[(yi x68.sec), (yi x68.frm), (yi x68.upto)] 269), (yo ab #[(yp db), (yi fr), (yi n)] 265)]) 0 6 6 rfl (by decide) (by kernel_rfl) (zn 0 rfl (by kernel_rfl) (fun w_ h_ => zb (yp ab) e54_0 ⟨rfl, rfl⟩) (zn 1 rfl (by kernel_rfl) (fun w_ h_ => zl rfl ⟨rfl, rfl⟩) (zn 2 rfl (by kernel_rfl) (fun w_ h_ => zg (k := 0) (fun _ => by kernel_rfl) rfl ⟨rfl, rfl⟩) (zn 3 rfl (by kernel_rfl) (fun w_ h_ => zj (v := (yp db)) Tryz.underlying25 rfl rfl h_ (zh 1 rfl) (CellsAt.one rfl) ⟨rfl, rfl⟩) (zn 4 rfl (by kernel_rfl) (fun w_ h_ => zg (k := 0) (fun _ => by kernel_rfl) rfl ⟨rfl, rfl⟩) (zn 5 rfl (by kernel_rfl) (fun w_ h_ => zj (v := (yi x68.sec)) Tryz.underlying3 rfl rfl h_ (zh 0 rfl) (CellsAt.one rfl) ⟨rfl, rfl⟩) ?_))))))
     have hH77 := ((hH76.front 4 rfl).front 1 rfl).first 2 rfl
     refine zM (by kernel_rfl) hH77 (zO 6 rfl (by kernel_rfl) (zk (vs := #[(yp db), (yi x68.sec)]) ca188 rfl (zF rfl rfl) (read_d (p := dc.p) (la := dc.la) (lo := dc.lo) ((hH76.front 2 rfl).front 2 rfl).all2 hdc x68.sec) ?_))
     rintro _ w80 ⟨rfl, hX78⟩
     refine ⟨_, rfl, ?_⟩
     have hH79 : Has E w80 [sgc, (yP pb dc.p), (yo b70 #[(yi x68.sec), (yi x68.frm), (yi x68.upto)] 269), s49, (yo ab #[(yp db), (yi fr), (yi n)] 265), R] := hX78.of_all2
     refine zO 7 rfl (by kernel_rfl) (zb (.tuple #[(S (readS dc.p dc.la dc.lo x68.sec)), (yi (readE dc.p dc.la x68.sec))]) rfl (Rest.phaseA (fun w_ => Has E w_ []) 8 11 3 rfl (by decide) (by kernel_rfl) (zn 8 rfl (by kernel_rfl) (fun w_ h_ => zp (v := (S (readS dc.p dc.la dc.lo x68.sec))) rfl rfl ⟨rfl, rfl⟩) (zn 9 rfl (by kernel_rfl) (fun w_ h_ => zp (v := (yi (readE dc.p dc.la x68.sec))) rfl rfl ⟨rfl, rfl⟩) (zn 10 rfl (by kernel_rfl) (fun w_ h_ => zc (S (readS dc.p dc.la dc.lo x68.sec)) rfl ⟨rfl, rfl⟩) ?_)))))
     have hH81 := hH79.first 0 rfl
     refine zM (by kernel_rfl) hH81 (zO 11 rfl (by kernel_rfl) (zc (yi (readE dc.p dc.la x68.sec)) rfl (Rest.done (by kernel_rfl) (ze (hK75 _ _ (yq fun K82 hK82 => (yq fun K83 hK83 => (zd (za (zb (yi (readE dc.p dc.la x68.sec)) rfl (za (o_neq (a := readE dc.p dc.la x68.sec) (b := 0) rfl rfl (zf (ze (hK83 _ _ (zt rfl (fun h84 => ?_) (fun h84 => ?_)))))))))))))))))
     ·
      obtain ⟨hq1, hq2, hq3, hq4, hq5⟩ := hpk x68 (List.mem_of_getElem? hx69)
      have hrd_ := rd_on hon2 (la := dc.la) (lo := dc.lo) (n := x68.sec) ⟨by omega, by rw [hla2]; omega⟩
      exact absurd hrd_.2 h84
     ·
      obtain ⟨hq1, hq2, hq3, hq4, hq5⟩ := hpk x68 (List.mem_of_getElem? hx69)
      have hrd_ := rd_on hon2 (la := dc.la) (lo := dc.lo) (n := x68.sec) ⟨by omega, by rw [hla2]; omega⟩
      have hrl_ : (readS dc.p dc.la dc.lo x68.sec).length = 64 := by rw [hrd_.1]; exact nowAt_len (by rw [hla2]; exact h64) hlc2 (by rw [hla2]; omega)
      obtain ⟨hpd_, hpz_⟩ := plen_drop hpk (show (allP fr (n * 64) (at_ % (n * 64)) z)[j]? = some _ from hx69)
      refine wp_skip (ze (hK82 _ _ (yq fun K85 hK85 => (zd (za (zg (k := 2) (fun _ => by kernel_rfl) rfl (za (zj (v := (yi x68.upto)) Tryz.underlying3 rfl rfl hH79 (zh 2 rfl) (CellsAt.one rfl) (za (zg (k := 1) (fun _ => by kernel_rfl) rfl (za (zj (v := (yi x68.frm)) Tryz.underlying3 rfl rfl hH79 (zh 2 rfl) (CellsAt.one rfl) (za (o_sub (a := x68.upto) (b := x68.frm) rfl rfl (w64 (by omega) (by omega)) (za (zc (yi (x68.upto - x68.frm)) rfl (zf (ze (hK85 _ _ (yq fun K86 hK86 => (yq fun K87 hK87 => (Rest.region mixed (by kernel_rfl) ?_))))))))))))))))))))))
      have hH88 : Has E { w80 with drawn := w80.drawn + 1 } [sgc, (yP pb dc.p), (yo b70 #[(yi x68.sec), (yi x68.frm), (yi x68.upto)] 269), s49, (yo ab #[(yp db), (yi fr), (yi n)] 265), R] := Has0.drew hH79 _
      refine Rest.phaseA (fun w_ => Has E w_ [(yo b70 #[(yi x68.sec), (yi x68.frm), (yi x68.upto)] 269), (yo ab #[(yp db), (yi fr), (yi n)] 265)]) 0 18 18 rfl (by decide) (by kernel_rfl) (zn 0 rfl (by kernel_rfl) (fun w_ h_ => zb (yp ab) e54_0 ⟨rfl, rfl⟩) (zn 1 rfl (by kernel_rfl) (fun w_ h_ => zl rfl ⟨rfl, rfl⟩) (zn 2 rfl (by kernel_rfl) (fun w_ h_ => zg (k := 0) (fun _ => by kernel_rfl) rfl ⟨rfl, rfl⟩) (zn 3 rfl (by kernel_rfl) (fun w_ h_ => zj (v := (yp db)) Tryz.underlying25 rfl rfl h_ (zh 1 rfl) (CellsAt.one rfl) ⟨rfl, rfl⟩) (zn 4 rfl (by kernel_rfl) (fun w_ h_ => zg (k := 0) (fun _ => by kernel_rfl) rfl ⟨rfl, rfl⟩) (zn 5 rfl (by kernel_rfl) (fun w_ h_ => zj (v := (yi x68.sec)) Tryz.underlying3 rfl rfl h_ (zh 0 rfl) (CellsAt.one rfl) ⟨rfl, rfl⟩) (zn 6 rfl (by kernel_rfl) (fun w_ h_ => zb (S (readS dc.p dc.la dc.lo x68.sec)) rfl ⟨rfl, rfl⟩) (zn 7 rfl (by kernel_rfl) (fun w_ h_ => zg (k := 1) (fun _ => by kernel_rfl) rfl ⟨rfl, rfl⟩) (zn 8 rfl (by kernel_rfl) (fun w_ h_ => zj (v := (yi x68.frm)) Tryz.underlying3 rfl rfl h_ (zh 0 rfl) (CellsAt.one rfl) ⟨rfl, rfl⟩) (zn 9 rfl (by kernel_rfl) (fun w_ h_ => o_ssl_h Tryz.underlying9 rfl rfl (by omega) (by omega) ⟨rfl, rfl⟩) (zn 10 rfl (by kernel_rfl) (fun w_ h_ => zb (S rest) e54_10 ⟨rfl, rfl⟩) (zn 11 rfl (by kernel_rfl) (fun w_ h_ => zb (yi (x68.upto - x68.frm)) rfl ⟨rfl, rfl⟩) (zn 12 rfl (by kernel_rfl) (fun w_ h_ => o_ssl_h Tryz.underlying9 rfl rfl (by omega) (by omega) ⟨rfl, rfl⟩) (zn 13 rfl (by kernel_rfl) (fun w_ h_ => zb (S (readS dc.p dc.la dc.lo x68.sec)) rfl ⟨rfl, rfl⟩) ?_))))))))))))))
      refine zn 14 rfl (by kernel_rfl) (fun w_ h_ => zg (k := 2) (fun _ => by kernel_rfl) rfl ⟨rfl, rfl⟩) (zn 15 rfl (by kernel_rfl) (fun w_ h_ => zj (v := (yi x68.upto)) Tryz.underlying3 rfl rfl h_ (zh 0 rfl) (CellsAt.one rfl) ⟨rfl, rfl⟩) (zn 16 rfl (by kernel_rfl) (fun w_ h_ => o_ssl_l Tryz.underlying9 rfl rfl (by omega) (by omega) ⟨rfl, rfl⟩) ?_))
      have hH89 := ((hH88.front 4 rfl).front 3 rfl).first 2 rfl
      refine a_w 17 rfl (by kernel_rfl) hH89 (zw (ps := #[(0, (S ((readS dc.p dc.la dc.lo x68.sec).take (x68.frm).toNat))), (1, (S (rest.take (x68.upto - x68.frm).toNat))), (2, (S ((readS dc.p dc.la dc.lo x68.sec).drop (x68.upto).toNat)))]) (cells := #[(S ((readS dc.p dc.la dc.lo x68.sec).take (x68.frm).toNat)), (S (rest.take (x68.upto - x68.frm).toNat)), (S ((readS dc.p dc.la dc.lo x68.sec).drop (x68.upto).toNat))]) Tryz.underlying46 ti9 (by decide) (parts3 rfl rfl rfl) (by kernel_rfl) hH88 fun b90 w91 hH92 => ?_)
      have hH93 := ((hH92.front 5 rfl).front 4 rfl).first 2 rfl
      refine zM (by kernel_rfl) hH93 ?_
      have hfl_ : ([(readS dc.p dc.la dc.lo x68.sec).take (x68.frm).toNat, rest.take (x68.upto - x68.frm).toNat, (readS dc.p dc.la dc.lo x68.sec).drop (x68.upto).toNat] : List Bs).flatten = (putA1 dc.la dc.lo x68 rest) := by rw [hrd_.1]; simp [putA1]
      have htl_ : (putA1 dc.la dc.lo x68 rest).length = 64 := put1_len (fr := fr) (n := n) ⟨hq1, hq2, hq3, hq4, hq5⟩ (by rw [← hrd_.1]; exact hrl_) (by omega)
      refine zO 18 rfl (by kernel_rfl) (zk (vs := #[(yp db), (yi x68.sec), (.slice (some ⟨b90, 0, none⟩) 3 3)]) ca122 rfl (args3 rfl rfl rfl) (dv_wr (d := dc) ((hH92.front 2 rfl).front 2 rfl).all2 hdc (hfc.ok (by omega)) (by rw [hla2]; exact h4) x68.sec (l := [(readS dc.p dc.la dc.lo x68.sec).take (x68.frm).toNat, rest.take (x68.upto - x68.frm).toNat, (readS dc.p dc.la dc.lo x68.sec).drop (x68.upto).toNat]) ((zW (f := sV) (l := [(readS dc.p dc.la dc.lo x68.sec).take (x68.frm).toNat, rest.take (x68.upto - x68.frm).toNat, (readS dc.p dc.la dc.lo x68.sec).drop (x68.upto).toNat]) rfl rfl (by simp)).mono (zh 0 rfl)) (s := (putA1 dc.la dc.lo x68 rest)) hfl_ (by simp) (by omega)) ?_)
      rintro _ w98 ⟨sg94, rfl, hd95, hX96⟩
      refine ⟨_, rfl, ?_⟩
      have hH97 : Has E w98 [sg94, (yP pb (dc.wr x68.sec (putA1 dc.la dc.lo x68 rest)).p), (yo b90 #[(S ((readS dc.p dc.la dc.lo x68.sec).take (x68.frm).toNat)), (S (rest.take (x68.upto - x68.frm).toNat)), (S ((readS dc.p dc.la dc.lo x68.sec).drop (x68.upto).toNat))] 9), (yo b70 #[(yi x68.sec), (yi x68.frm), (yi x68.upto)] 269), s49, (yo ab #[(yp db), (yi fr), (yi n)] 265), R] := hX96.of_all2
      refine zO 19 rfl (by kernel_rfl) (zc (yi (dc.wrE x68.sec (putA1 dc.la dc.lo x68 rest))) rfl (Rest.done (by kernel_rfl) (ze (hK87 _ _ (yq fun K99 hK99 => (zd (za (zb (yi (dc.wrE x68.sec (putA1 dc.la dc.lo x68 rest))) rfl (za (o_neq (a := dc.wrE x68.sec (putA1 dc.la dc.lo x68 rest)) (b := 0) rfl rfl (zf (ze (hK99 _ _ (zt rfl (fun h100 => ?_) (fun h100 => ?_)))))))))))))))
      ·
       refine yq fun K101 hK101 => (zd (za (zb (yi (dc.wrE x68.sec (putA1 dc.la dc.lo x68 rest))) rfl (za (zc (yi (dc.wrE x68.sec (putA1 dc.la dc.lo x68 rest))) rfl (zf (ze (hK101 _ _ (wp_ret (zx (zZ (zx (zx (zZ (zx (zr Tryz.results108  (v := (yi (dc.wrE x68.sec (putA1 dc.la dc.lo x68 rest)))) rfl ?_))))))))))))))))
       have hR_ := aset_stop (show (allP fr (n * 64) (at_ % (n * 64)) z)[j]? = some _ from hx69) hst h100
       have hH102 := ((((hH97.front 6 rfl).front 6 rfl).front 3 rfl).front 3 rfl).first 4 rfl
       have hE_ : (setA d fr n at_ data.flatten) = (dc.wrE x68.sec (putA1 dc.la dc.lo x68 rest), (dc.wr x68.sec (putA1 dc.la dc.lo x68 rest))) := (if_pos (show mayA n at_ (data.flatten.length : Int) by rw [← hzz]; exact Classical.not_not.1 h32)).trans ((if_neg (by rw [hon_]; decide)).trans (by show asetD (allP fr (n * 64) (at_ % (n * 64)) (data.flatten.length : Int)) d data.flatten = _; rw [← hzz]; exact hR_))
       exact ⟨_, by rw [hE_], by rw [hE_]; exact hd95, by rw [hE_]; exact hH102⟩
      ·
       have hon3_ := wr_zero_on (Classical.not_not.1 h100)
       refine wp_skip (ze (hK86 _ _ (zd (za (zb (S rest) e54_10 (za (zb (yi (x68.upto - x68.frm)) rfl (za (o_ssl_l Tryz.underlying9 rfl rfl (by omega) (by omega) (za (zc (S (rest.drop (x68.upto - x68.frm).toNat)) rfl (zf (zC (ze (hK63 _ _ (zd (za (zD (a := (j : Int)) (b := 1) e54_47 rfl (w64 (by omega) (by omega)) (za (zb (yi ((j : Int) + 1)) rfl (zf ?_)))))))))))))))))))))
       have hH103 := (((((hH97.front 6 rfl).front 6 rfl).front 6 rfl).front 4 rfl).front 4 rfl).first 5 rfl
       refine ze ⟨(allP fr (n * 64) (at_ % (n * 64)) z).length - (j + 1), _, rfl, ?_, ?_⟩
       · omega
       · exact ⟨(j + 1), (rest.drop (x68.upto - x68.frm).toNat), (dc.wr x68.sec (putA1 dc.la dc.lo x68 rest)), sg94, rfl, hH103, (by omega), (hd95), (hla2), (hlc2.write _ _ _), (hfc.use), (hon3_), (by rw [List.length_drop]; omega), (aset_go (show (allP fr (n * 64) (at_ % (n * 64)) z)[j]? = some _ from hx69) hst (Classical.not_not.1 h100)), e54_0, e54_1, e54_2, e54_7, rfl, e54_17, e54_18, e54_19, e54_20, e54_33, e54_39, e54_45, e54_46, rfl⟩
    ·
     refine wp_exit (zy (zy (x_in ((ze (hK46 _ _ (yq fun K104 hK104 => (zd (za (zc (yi 0) rfl (zf (ze (hK104 _ _ (wp_ret (zr Tryz.results108  (v := (yi 0)) rfl ?_)))))))))))))))
     have hR_ := aset_end hst (by omega)
     have hH105 := ((((hH58.front 4 rfl).front 4 rfl).front 3 rfl).front 3 rfl).first 4 rfl
     have hE_ : (setA d fr n at_ data.flatten) = (0, dc) := (if_pos (show mayA n at_ (data.flatten.length : Int) by rw [← hzz]; exact Classical.not_not.1 h32)).trans ((if_neg (by rw [hon_]; decide)).trans (by show asetD (allP fr (n * 64) (at_ % (n * 64)) (data.flatten.length : Int)) d data.flatten = _; rw [← hzz]; exact hR_))
     exact ⟨_, by rw [hE_], by rw [hE_]; exact hdc, by rw [hE_]; exact hH105⟩
end Go.Q
namespace Go.Q
open Go.Proofs
set_option linter.unusedVariables false
set_option maxRecDepth 100000
attribute [local irreducible] wpList OK Code.wp
theorem ssave_c {E w : World} {R sg ss : List Hp} {pb sb db ab : Nat} {d : Dv} {v : StmS} {n : Int} (hH : Has E w [sg, (yP pb d.p), (yo ab #[(yp db), (yi 2), (yi n)] 265), ss, R]) (hd : DevAt pb sg db d.la d.lo) (hs : StmAt db ab sb ss v) {k : Nat} (hf : Few d.p k) (hk : k ≤ 400000) (hlk : LoOk d.lo d.la.length) (h4 : d.la.length ≤ 4096) (hg : CellsAt R 0 0 nibV) {h : Hd} :
  Calls Tryz.prog 110 #[(yp sb), (.agg (yH h))] w fun e w' => ∃ sg' ss', e = .returned (yi (saveS d v h).1) ∧ DevAt pb sg' db (saveS d v h).2.1.la (saveS d v h).2.1.lo ∧ StmAt db ab sb ss' (saveS d v h).2.2 ∧ Has E w' [sg', (yP pb ((saveS d v h).2.1).p), (yo ab #[(yp db), (yi 2), (yi n)] 265), ss', R] := by
 refine zs (args := [(yp sb), (.agg (yH h))]) Tryz.func110 rfl Tryz.ntmps110 (by simp) (yq fun K1 hK1 => (zd (za (o_box (cs := (yH h)) rfl rfl hH fun b2 w3 hH4 => (za (zc (yi 0) rfl (zf (ze (hK1 _ _ (yq fun K5 hK5 => (Rest.region mixed (by kernel_rfl) ?_)))))))))))
 have hH6 : Has E { w3 with drawn := w3.drawn + 1 } [[Hp.one b2 (.cells (yH h) 23 (0, 0))], sg, (yP pb d.p), (yo ab #[(yp db), (yi 2), (yi n)] 265), ss, R] := Has0.drew hH4 _
 obtain ⟨x7, s8, rfl, f9⟩ := hs
 have hH10 : Has E { w3 with drawn := w3.drawn + 1 } [(yS sb v db ab x7), s8, [Hp.one b2 (.cells (yH h) 23 (0, 0))], sg, (yP pb d.p), (yo ab #[(yp db), (yi 2), (yi n)] 265), R] := Has.op2 (hH6.front 4 rfl)
 refine Rest.phaseA (fun w_ => Has E w_ [(yS sb v db ab x7), [Hp.one b2 (.cells (yH h) 23 (0, 0))]]) 0 11 11 rfl (by decide) (by kernel_rfl) (zn 0 rfl (by kernel_rfl) (fun w_ h_ => zb (yp sb) rfl ⟨rfl, rfl⟩) (zn 1 rfl (by kernel_rfl) (fun w_ h_ => zl rfl ⟨rfl, rfl⟩) (zn 2 rfl (by kernel_rfl) (fun w_ h_ => zg (k := 5) (fun _ => by kernel_rfl) rfl ⟨rfl, rfl⟩) (zn 3 rfl (by kernel_rfl) (fun w_ h_ => zj (v := (yp db)) Tryz.underlying25 rfl rfl h_ (zh 0 rfl) (CellsAt.one rfl) ⟨rfl, rfl⟩) (zn 4 rfl (by kernel_rfl) (fun w_ h_ => zG (cs := (yL h)) Tryz.underlying23 rfl zY rfl h_ (zh 1 rfl) (CellsAt.one rfl) ⟨rfl, rfl⟩) ?_)))))
 have hH11 := ((hH10.front 2 rfl).front 1 rfl).first 2 rfl
 refine a_two 5 9 (by kernel_rfl) hH11 ?_ ?_
 ·
  have hH12 : Has E { w3 with drawn := w3.drawn + 1 } [(yS sb v db ab x7), [Hp.one b2 (.cells (yH h) 23 (0, 0))]] := ((hH10.front 2 rfl).front 1 rfl).first 2 rfl
  refine ok_w 5 rfl (zk (vs := #[(yp db), (yi 0), (.agg (yH h))]) ca123 rfl (args3 rfl rfl rfl) (hsv_c (d := d) ((hH10.front 4 rfl).front 4 rfl).all2 hd hf (by omega) hlk h4 (hg.mono (zh 4 rfl)) 0 (h := h)) ?_)
  rintro _ w17 ⟨sg13, rfl, hd14, hX15⟩
  refine ⟨_, rfl, ?_⟩
  have hH16 : Has E w17 [sg13, (yP pb ((svD d 0 h).2.2).p), (yS sb v db ab x7), s8, [Hp.one b2 (.cells (yH h) 23 (0, 0))], (yo ab #[(yp db), (yi 2), (yi n)] 265), R] := hX15.of_all2
  refine zn 6 rfl (by kernel_rfl) (fun w_ h_ => zb (.tuple #[(.agg (yH ((svD d 0 h).2.1))), (yi ((svD d 0 h).1))]) rfl ⟨rfl, rfl⟩) (zn 7 rfl (by kernel_rfl) (fun w_ h_ => zp (v := (.agg (yH ((svD d 0 h).2.1)))) rfl rfl ⟨rfl, rfl⟩) (zn 8 rfl (by kernel_rfl) (fun w_ h_ => zp (v := (yi ((svD d 0 h).1))) rfl rfl ⟨rfl, rfl⟩) ?_))
  have hH18 := ((hH16.front 4 rfl).front 3 rfl).first 2 rfl
  refine a_w 9 rfl (by kernel_rfl) hH18 (zU (cs := y0A) zY rfl hH16 fun b19 w20 hH21 => ?_)
  have hH22 := ((hH21.front 5 rfl).front 4 rfl).first 2 rfl
  refine a_we 10 rfl (by kernel_rfl) hH22 (zv (vs := (yL ((svD d 0 h).2.1))) (c' := (yH ((svD d 0 h).2.1))) zY rfl rfl rfl rfl y5 (by simp) (by kernel_rfl) (hH21.front 0 rfl) fun w23 hH24 => ?_)
  have hH25 := ((hH24.front 5 rfl).front 4 rfl).first 2 rfl
  refine zM (by kernel_rfl) hH25 (zO 11 rfl (by kernel_rfl) (zc (yi ((svD d 0 h).1)) rfl (Rest.done (by kernel_rfl) (ze (hK5 _ _ (yq fun K26 hK26 => (yq fun K27 hK27 => (zd (za (zb (yi ((svD d 0 h).1)) rfl (za (yc (a := (svD d 0 h).1) (b := 0) rfl rfl (zf (ze (hK27 _ _ (zt rfl (fun h28 => ?_) (fun h28 => ?_)))))))))))))))))
  ·
   refine zd (za (zb (yp sb) rfl (za (zG (cs := (yL ((svD d 0 h).2.1))) Tryz.underlying23 rfl zY rfl hH24 (zh 0 rfl) (CellsAt.one rfl) (za (zJ (v := (.agg (yH ((svD d 0 h).2.1)))) (fun _ => by kernel_rfl) (za (zl rfl (za (zg (k := 0) (fun _ => by kernel_rfl) rfl (zB (zv (vs := (yL ((svD d 0 h).2.1))) (c' := #[(yi ((svD d 0 h).2.1).seq), (yi ((svD d 0 h).2.1).ep), (yi ((svD d 0 h).2.1).cut), (yi ((svD d 0 h).2.1).st), (yi ((svD d 0 h).2.1).mrk), (yp db), (yp ab), x7, (yi v.tail), (yi v.flushed), (yi v.res), (.bool v.cut), (yi v.err)]) ti173 rfl rfl rfl rfl y5 (by simp) (by kernel_rfl) (hH24.front 3 rfl) fun w29 hH30 => (zf (ze (hK26 _ _ (yq fun K31 hK31 => (zd (za (zb (yp sb) rfl (za (zb (yi ((svD d 0 h).1)) rfl ?_)))))))))))))))))))))
   have hH32 := Has.cl2 ((hH30.front 4 rfl).front 1 rfl)
   have hd33 : StmAt db ab sb ((yo sb #[(yi ((svD d 0 h).2.1).seq), (yi ((svD d 0 h).2.1).ep), (yi ((svD d 0 h).2.1).cut), (yi ((svD d 0 h).2.1).st), (yi ((svD d 0 h).2.1).mrk), (yp db), (yp ab), x7, (yi v.tail), (yi v.flushed), (yi v.res), (.bool v.cut), (yi v.err)] 175) ++ s8) (⟨((svD d 0 h).2.1).seq, ((svD d 0 h).2.1).ep, ((svD d 0 h).2.1).cut, ((svD d 0 h).2.1).st, ((svD d 0 h).2.1).mrk, v.l, v.tail, v.flushed, v.res, v.cut, v.err⟩ : StmS) := StmAt.mk (v := (⟨((svD d 0 h).2.1).seq, ((svD d 0 h).2.1).ep, ((svD d 0 h).2.1).cut, ((svD d 0 h).2.1).st, ((svD d 0 h).2.1).mrk, v.l, v.tail, v.flushed, v.res, v.cut, v.err⟩ : StmS)) f9
   refine za (zk (vs := #[(yp sb), (yi ((svD d 0 h).1))]) ca109 rfl (zF rfl rfl) (sstays_c (db := db) (ab := ab) (v := (⟨((svD d 0 h).2.1).seq, ((svD d 0 h).2.1).ep, ((svD d 0 h).2.1).cut, ((svD d 0 h).2.1).st, ((svD d 0 h).2.1).mrk, v.l, v.tail, v.flushed, v.res, v.cut, v.err⟩ : StmS)) (e_ := (svD d 0 h).1) hH32.all1 hd33) ?_)
   rintro _ w38 ⟨sg34, rfl, hd35, hX36⟩
   refine ⟨_, rfl, ?_⟩
   have hH37 := hX36.of_all1
   refine za (zc (yi ((svD d 0 h).1)) rfl (zf (ze (hK31 _ _ (wp_ret (zr Tryz.results110  (v := (yi ((svD d 0 h).1))) rfl ?_))))))
   have hH39 := (((((hH37.front 6 rfl).front 1 rfl).front 6 rfl).front 5 rfl).front 5 rfl).first 5 rfl
   have hE_ : (saveS d v h) = (((svD d 0 h).1), (svD d 0 h).2.2, (stays (⟨((svD d 0 h).2.1).seq, ((svD d 0 h).2.1).ep, ((svD d 0 h).2.1).cut, ((svD d 0 h).2.1).st, ((svD d 0 h).2.1).mrk, v.l, v.tail, v.flushed, v.res, v.cut, v.err⟩ : StmS) ((svD d 0 h).1))) := by
    unfold saveS; rw [if_pos h28]; rfl
   exact ⟨_, _, by rw [hE_], by rw [hE_]; exact hd14, by rw [hE_]; exact hd35, by rw [hE_]; exact hH39⟩
  ·
   refine wp_skip (ze (hK26 _ _ (yq fun K40 hK40 => (zd (za (zb (yp sb) rfl (za (zb (yi ((svD d 0 h).1)) rfl ?_))))))))
   have hH41 := Has.cl2 ((hH24.front 4 rfl).front 4 rfl)
   have hd42 : StmAt db ab sb ((yS sb v db ab x7) ++ s8) v := StmAt.mk (v := v) f9
   refine za (zk (vs := #[(yp sb), (yi ((svD d 0 h).1))]) ca109 rfl (zF rfl rfl) (sstays_c (db := db) (ab := ab) (v := v) (e_ := (svD d 0 h).1) hH41.all1 hd42) ?_)
   rintro _ w47 ⟨sg43, rfl, hd44, hX45⟩
   refine ⟨_, rfl, ?_⟩
   have hH46 := hX45.of_all1
   refine za (zc (yi ((svD d 0 h).1)) rfl (zf (ze (hK40 _ _ (wp_ret (zr Tryz.results110  (v := (yi ((svD d 0 h).1))) rfl ?_))))))
   have hH48 := (((((hH46.front 6 rfl).front 1 rfl).front 6 rfl).front 5 rfl).front 5 rfl).first 5 rfl
   have hE_ : (saveS d v h) = (((svD d 0 h).1), (svD d 0 h).2.2, (stays v ((svD d 0 h).1))) := by
    unfold saveS; rw [if_neg h28]
   exact ⟨_, _, by rw [hE_], by rw [hE_]; exact hd14, by rw [hE_]; exact hd44, by rw [hE_]; exact hH48⟩
 ·
  have hH49 : Has E { w3 with drawn := w3.drawn + 1 } [(yS sb v db ab x7), [Hp.one b2 (.cells (yH h) 23 (0, 0))]] := ((hH10.front 2 rfl).front 1 rfl).first 2 rfl
  refine ok_w 9 rfl (zU (cs := y0A) zY rfl hH10 fun b50 w51 hH52 => ?_)
  have hH53 := ((hH52.front 3 rfl).front 2 rfl).first 2 rfl
  refine a_w 5 rfl (by kernel_rfl) hH53 (zk (vs := #[(yp db), (yi 0), (.agg (yH h))]) ca123 rfl (args3 rfl rfl rfl) (hsv_c (d := d) ((hH52.front 5 rfl).front 5 rfl).all2 hd hf (by omega) hlk h4 (hg.mono (zh 5 rfl)) 0 (h := h)) ?_)
  rintro _ w58 ⟨sg54, rfl, hd55, hX56⟩
  refine ⟨_, rfl, ?_⟩
  have hH57 : Has E w58 [sg54, (yP pb ((svD d 0 h).2.2).p), (yo b50 y0A 23), (yS sb v db ab x7), s8, [Hp.one b2 (.cells (yH h) 23 (0, 0))], (yo ab #[(yp db), (yi 2), (yi n)] 265), R] := hX56.of_all2
  refine zn 6 rfl (by kernel_rfl) (fun w_ h_ => zb (.tuple #[(.agg (yH ((svD d 0 h).2.1))), (yi ((svD d 0 h).1))]) rfl ⟨rfl, rfl⟩) (zn 7 rfl (by kernel_rfl) (fun w_ h_ => zp (v := (.agg (yH ((svD d 0 h).2.1)))) rfl rfl ⟨rfl, rfl⟩) (zn 8 rfl (by kernel_rfl) (fun w_ h_ => zp (v := (yi ((svD d 0 h).1))) rfl rfl ⟨rfl, rfl⟩) ?_))
  have hH59 := ((hH57.front 5 rfl).front 4 rfl).first 2 rfl
  refine a_we 10 rfl (by kernel_rfl) hH59 (zv (vs := (yL ((svD d 0 h).2.1))) (c' := (yH ((svD d 0 h).2.1))) zY rfl rfl rfl rfl y5 (by simp) (by kernel_rfl) (hH57.front 2 rfl) fun w60 hH61 => ?_)
  have hH62 := ((hH61.front 5 rfl).front 4 rfl).first 2 rfl
  refine zM (by kernel_rfl) hH62 (zO 11 rfl (by kernel_rfl) (zc (yi ((svD d 0 h).1)) rfl (Rest.done (by kernel_rfl) (ze (hK5 _ _ (yq fun K63 hK63 => (yq fun K64 hK64 => (zd (za (zb (yi ((svD d 0 h).1)) rfl (za (yc (a := (svD d 0 h).1) (b := 0) rfl rfl (zf (ze (hK64 _ _ (zt rfl (fun h65 => ?_) (fun h65 => ?_)))))))))))))))))
  ·
   refine zd (za (zb (yp sb) rfl (za (zG (cs := (yL ((svD d 0 h).2.1))) Tryz.underlying23 rfl zY rfl hH61 (zh 0 rfl) (CellsAt.one rfl) (za (zJ (v := (.agg (yH ((svD d 0 h).2.1)))) (fun _ => by kernel_rfl) (za (zl rfl (za (zg (k := 0) (fun _ => by kernel_rfl) rfl (zB (zv (vs := (yL ((svD d 0 h).2.1))) (c' := #[(yi ((svD d 0 h).2.1).seq), (yi ((svD d 0 h).2.1).ep), (yi ((svD d 0 h).2.1).cut), (yi ((svD d 0 h).2.1).st), (yi ((svD d 0 h).2.1).mrk), (yp db), (yp ab), x7, (yi v.tail), (yi v.flushed), (yi v.res), (.bool v.cut), (yi v.err)]) ti173 rfl rfl rfl rfl y5 (by simp) (by kernel_rfl) (hH61.front 3 rfl) fun w66 hH67 => (zf (ze (hK63 _ _ (yq fun K68 hK68 => (zd (za (zb (yp sb) rfl (za (zb (yi ((svD d 0 h).1)) rfl ?_)))))))))))))))))))))
   have hH69 := Has.cl2 ((hH67.front 4 rfl).front 1 rfl)
   have hd70 : StmAt db ab sb ((yo sb #[(yi ((svD d 0 h).2.1).seq), (yi ((svD d 0 h).2.1).ep), (yi ((svD d 0 h).2.1).cut), (yi ((svD d 0 h).2.1).st), (yi ((svD d 0 h).2.1).mrk), (yp db), (yp ab), x7, (yi v.tail), (yi v.flushed), (yi v.res), (.bool v.cut), (yi v.err)] 175) ++ s8) (⟨((svD d 0 h).2.1).seq, ((svD d 0 h).2.1).ep, ((svD d 0 h).2.1).cut, ((svD d 0 h).2.1).st, ((svD d 0 h).2.1).mrk, v.l, v.tail, v.flushed, v.res, v.cut, v.err⟩ : StmS) := StmAt.mk (v := (⟨((svD d 0 h).2.1).seq, ((svD d 0 h).2.1).ep, ((svD d 0 h).2.1).cut, ((svD d 0 h).2.1).st, ((svD d 0 h).2.1).mrk, v.l, v.tail, v.flushed, v.res, v.cut, v.err⟩ : StmS)) f9
   refine za (zk (vs := #[(yp sb), (yi ((svD d 0 h).1))]) ca109 rfl (zF rfl rfl) (sstays_c (db := db) (ab := ab) (v := (⟨((svD d 0 h).2.1).seq, ((svD d 0 h).2.1).ep, ((svD d 0 h).2.1).cut, ((svD d 0 h).2.1).st, ((svD d 0 h).2.1).mrk, v.l, v.tail, v.flushed, v.res, v.cut, v.err⟩ : StmS)) (e_ := (svD d 0 h).1) hH69.all1 hd70) ?_)
   rintro _ w75 ⟨sg71, rfl, hd72, hX73⟩
   refine ⟨_, rfl, ?_⟩
   have hH74 := hX73.of_all1
   refine za (zc (yi ((svD d 0 h).1)) rfl (zf (ze (hK68 _ _ (wp_ret (zr Tryz.results110  (v := (yi ((svD d 0 h).1))) rfl ?_))))))
   have hH76 := (((((hH74.front 6 rfl).front 1 rfl).front 6 rfl).front 5 rfl).front 5 rfl).first 5 rfl
   have hE_ : (saveS d v h) = (((svD d 0 h).1), (svD d 0 h).2.2, (stays (⟨((svD d 0 h).2.1).seq, ((svD d 0 h).2.1).ep, ((svD d 0 h).2.1).cut, ((svD d 0 h).2.1).st, ((svD d 0 h).2.1).mrk, v.l, v.tail, v.flushed, v.res, v.cut, v.err⟩ : StmS) ((svD d 0 h).1))) := by
    unfold saveS; rw [if_pos h65]; rfl
   exact ⟨_, _, by rw [hE_], by rw [hE_]; exact hd55, by rw [hE_]; exact hd72, by rw [hE_]; exact hH76⟩
  ·
   refine wp_skip (ze (hK63 _ _ (yq fun K77 hK77 => (zd (za (zb (yp sb) rfl (za (zb (yi ((svD d 0 h).1)) rfl ?_))))))))
   have hH78 := Has.cl2 ((hH61.front 4 rfl).front 4 rfl)
   have hd79 : StmAt db ab sb ((yS sb v db ab x7) ++ s8) v := StmAt.mk (v := v) f9
   refine za (zk (vs := #[(yp sb), (yi ((svD d 0 h).1))]) ca109 rfl (zF rfl rfl) (sstays_c (db := db) (ab := ab) (v := v) (e_ := (svD d 0 h).1) hH78.all1 hd79) ?_)
   rintro _ w84 ⟨sg80, rfl, hd81, hX82⟩
   refine ⟨_, rfl, ?_⟩
   have hH83 := hX82.of_all1
   refine za (zc (yi ((svD d 0 h).1)) rfl (zf (ze (hK77 _ _ (wp_ret (zr Tryz.results110  (v := (yi ((svD d 0 h).1))) rfl ?_))))))
   have hH85 := (((((hH83.front 6 rfl).front 1 rfl).front 6 rfl).front 5 rfl).front 5 rfl).first 5 rfl
   have hE_ : (saveS d v h) = (((svD d 0 h).1), (svD d 0 h).2.2, (stays v ((svD d 0 h).1))) := by
    unfold saveS; rw [if_neg h65]
   exact ⟨_, _, by rw [hE_], by rw [hE_]; exact hd55, by rw [hE_]; exact hd81, by rw [hE_]; exact hH85⟩
end Go.Q
namespace Go.Q
open Go.Proofs
set_option linter.unusedVariables false
set_option maxRecDepth 100000
attribute [local irreducible] wpList OK Code.wp
theorem scut_c {E w : World} {R sg ss : List Hp} {pb sb db ab : Nat} {d : Dv} {v : StmS} {n : Int} (hH : Has E w [sg, (yP pb d.p), (yo ab #[(yp db), (yi 2), (yi n)] 265), ss, R]) (hd : DevAt pb sg db d.la d.lo) (hs : StmAt db ab sb ss v) {k : Nat} (hf : Few d.p k) (hk : k ≤ 400000) (hlk : LoOk d.lo d.la.length) (h4 : d.la.length ≤ 4096) (h64 : Full64 d.la) (hln : (d.la.length : Int) = n + 2) (hok : StmOk n v) (hg : CellsAt R 0 0 nibV) {last : Int} :
  Calls Tryz.prog 28 #[(yp sb), (yi last)] w fun e w' => ∃ sg' ss', e = .returned (yi (ctS d v last).1) ∧ DevAt pb sg' db (ctS d v last).2.1.la (ctS d v last).2.1.lo ∧ StmAt db ab sb ss' (ctS d v last).2.2 ∧ Has E w' [sg', (yP pb ((ctS d v last).2.1).p), (yo ab #[(yp db), (yi 2), (yi n)] 265), ss', R] := by
 obtain ⟨hle1_, hle2_⟩ := hok.le
 obtain ⟨hn1_, hn2_⟩ := hok.num
 obtain ⟨hm1_, hm2_⟩ := hok.mrk
 obtain ⟨hs1_, hs2_⟩ := hok.st
 have ht_ := hok.tail
 obtain ⟨hr1_, hr2_⟩ := hok.res
 obtain ⟨hf1_, hf2_⟩ := hok.fl
 obtain ⟨hla1_, hla2_, hla3_⟩ := last_le hok
 have hfv_ : freeV n v = n * 64 - (v.tail - v.st) - v.res := rfl
 obtain ⟨hep1_, hep2_⟩ := hok.ep
 refine zs (args := [(yp sb), (yi last)]) Tryz.func28 rfl Tryz.ntmps28 (by simp) (yq fun K1 hK1 => (zd (za (zc (yi 0) rfl (zf (ze (hK1 _ _ (yq fun K2 hK2 => (yq fun K3 hK3 => (zd (za (zb (yp sb) rfl (za (zk (vs := #[(yp sb)]) ca39 rfl (zI rfl) (serr_c (v := v) (db := db) (ab := ab) hH.all (hs.rd.mono (zh 3 rfl))) ?_))))))))))))))
 rintro _ w6 ⟨rfl, hX4⟩
 refine ⟨_, rfl, ?_⟩
 have hH5 := hX4.of_all
 refine za (zc (yi v.err) rfl (zf (ze (hK3 _ _ (yq fun K7 hK7 => (zd (za (zb (yi v.err) rfl (za (o_neq (a := v.err) (b := 0) rfl rfl (zf (ze (hK7 _ _ (zt rfl (fun h8 => ?_) (fun h8 => ?_)))))))))))))))
 ·
  refine yq fun K9 hK9 => (zd (za (zb (yi v.err) rfl (za (zc (yi v.err) rfl (zf (ze (hK9 _ _ (wp_ret (zx (zr Tryz.results28  (v := (yi v.err)) rfl ?_)))))))))))
  have hE_ : (ctS d v last) = (v.err, d, v) := by
   exact if_pos h8
  exact ⟨_, _, by rw [hE_], by rw [hE_]; exact hd, by rw [hE_]; exact hs, by rw [hE_]; exact hH5⟩
 ·
  refine wp_skip (ze (hK2 _ _ (yq fun K10 hK10 => (wp_block (yq fun K11 hK11 => (zd (za (zb (yp sb) rfl (za (zl rfl ?_))))))))))
  obtain ⟨x12, s13, rfl, f14⟩ := hs
  have hH15 : Has E w6 [(yS sb v db ab x12), s13, sg, (yP pb d.p), (yo ab #[(yp db), (yi 2), (yi n)] 265), R] := Has.op2 (hH5.front 3 rfl)
  refine za (zg (k := 11) (fun _ => by kernel_rfl) rfl (za (zj (v := (.bool v.cut)) Tryz.underlying4 rfl rfl hH15 (zh 0 rfl) (CellsAt.one rfl) (za (zc (.bool v.cut) rfl (zf (ze (hK11 _ _ (z7 rfl (fun h16 => ?_) (fun h16 => ?_))))))))))
  ·
   refine yq fun K17 hK17 => (zd (za (zc (yi 12) rfl (zf (ze (hK17 _ _ (wp_ret (zZ (zx (zr Tryz.results28  (v := (yi 12)) rfl ?_))))))))))
   have hH18 := Has.cl2 ((hH15.front 1 rfl).front 1 rfl)
   have hd19 : StmAt db ab sb ((yS sb v db ab x12) ++ s13) v := StmAt.mk (v := v) f14
   have hH20 := (((((hH18.front 4 rfl).front 1 rfl).front 4 rfl).front 4 rfl).front 4 rfl).first 5 rfl
   have hE_ : (ctS d v last) = (12, d, v) := by
    unfold ctS; rw [if_neg h8, if_pos h16]
   exact ⟨_, _, by rw [hE_], by rw [hE_]; exact hd, by rw [hE_]; exact hd19, by rw [hE_]; exact hH20⟩
  ·
   refine yq fun K21 hK21 => (zd (za (zb (yi last) rfl (za (zL (a := last) (b := 0) rfl rfl (za (zb (.bool (decide (last < 0))) rfl ?_)))))))
   by_cases h22 : last < 0
   ·
    refine zi (b' := true) 23 rfl (cT h22) rfl (zi (b' := true) 23 rfl (cT h22) rfl (za (zq (u := (.bool true)) ((rfl : _ = _).trans (cT h22)) rfl (za (zc (.bool true) rfl (zf (ze (hK21 _ _ (zP rfl rfl (yq fun K23 hK23 => (zd (za (zc (yi 1) rfl (zf (ze (hK23 _ _ (wp_ret (zZ (zx (zr Tryz.results28  (v := (yi 1)) rfl ?_))))))))))))))))))))
    have hH24 := Has.cl2 ((hH15.front 1 rfl).front 1 rfl)
    have hd25 : StmAt db ab sb ((yS sb v db ab x12) ++ s13) v := StmAt.mk (v := v) f14
    have hH26 := (((((hH24.front 4 rfl).front 1 rfl).front 4 rfl).front 4 rfl).front 4 rfl).first 5 rfl
    have hE_ : (ctS d v last) = (1, d, v) := by
     unfold ctS; rw [if_neg h8, if_neg (by rw [h16]; decide), if_pos (by omega)]
    exact ⟨_, _, by rw [hE_], by rw [hE_]; exact hd, by rw [hE_]; exact hd25, by rw [hE_]; exact hH26⟩
   ·
    refine zo 23 rfl (cF h22) (zb (yi last) rfl (zo 23 rfl (cF h22) (o_gtr (a := last) (b := 4611686018427387903) rfl rfl (za (zm (u := (.bool (decide (4611686018427387903 < last)))) ((rfl : _ = _).trans (cF h22)) rfl (za (zc (.bool (decide (4611686018427387903 < last))) rfl (zf (ze (hK21 _ _ (zt rfl (fun h27 => ?_) (fun h27 => ?_))))))))))))
    ·
     refine yq fun K28 hK28 => (zd (za (zc (yi 1) rfl (zf (ze (hK28 _ _ (wp_ret (zZ (zx (zr Tryz.results28  (v := (yi 1)) rfl ?_))))))))))
     have hH29 := Has.cl2 ((hH15.front 1 rfl).front 1 rfl)
     have hd30 : StmAt db ab sb ((yS sb v db ab x12) ++ s13) v := StmAt.mk (v := v) f14
     have hH31 := (((((hH29.front 4 rfl).front 1 rfl).front 4 rfl).front 4 rfl).front 4 rfl).first 5 rfl
     have hE_ : (ctS d v last) = (1, d, v) := by
      unfold ctS; rw [if_neg h8, if_neg (by rw [h16]; decide), if_pos (by omega)]
     exact ⟨_, _, by rw [hE_], by rw [hE_]; exact hd, by rw [hE_]; exact hd30, by rw [hE_]; exact hH31⟩
    ·
     refine yq fun K32 hK32 => (zd (za (zb (yp sb) rfl (za (zl rfl (za (zg (k := 0) (fun _ => by kernel_rfl) rfl (za (zg (k := 0) (fun _ => by kernel_rfl) rfl (za (zg (k := 1) (fun _ => by kernel_rfl) rfl (za (zj (v := (yi v.ep)) Tryz.underlying3 rfl rfl hH15 (zh 0 rfl) (CellsAt.one rfl) (za (o_geq (a := v.ep) (b := 2147483647) rfl rfl (za (zc (.bool (decide (2147483647 ≤ v.ep))) rfl (zf (ze (hK32 _ _ (zt rfl (fun h33 => ?_) (fun h33 => ?_))))))))))))))))))))))
     ·
      refine yq fun K34 hK34 => (zd (za (zc (yi 3) rfl (zf (ze (hK34 _ _ (wp_ret (zZ (zx (zr Tryz.results28  (v := (yi 3)) rfl ?_))))))))))
      have hH35 := Has.cl2 ((hH15.front 1 rfl).front 1 rfl)
      have hd36 : StmAt db ab sb ((yS sb v db ab x12) ++ s13) v := StmAt.mk (v := v) f14
      have hH37 := (((((hH35.front 4 rfl).front 1 rfl).front 4 rfl).front 4 rfl).front 4 rfl).first 5 rfl
      have hE_ : (ctS d v last) = (3, d, v) := by
       unfold ctS; rw [if_neg h8, if_neg (by rw [h16]; decide), if_neg (by omega), if_pos (by omega)]
      exact ⟨_, _, by rw [hE_], by rw [hE_]; exact hd, by rw [hE_]; exact hd36, by rw [hE_]; exact hH37⟩
     ·
      refine wp_skip (zC (ze (hK10 _ _ (yq fun K38 hK38 => (zd (za (zb (yp sb) rfl (za (zb (yi last) rfl (za (zD (a := last) (b := 1) rfl rfl (w64 (by omega) (by omega)) (za (zk (vs := #[(yp sb), (yi (last + 1))]) ca102 rfl (zF rfl rfl) (splace_c (v := v) (db := db) (ab := ab) (g := last + 1) (n := n) hH15.all (StmRd.mk (v := v) ((CellsAt.one rfl).mono (zh 0 rfl)) (f14.sl.mono (zh 1 rfl))) hok) ?_)))))))))))))
      rintro _ w41 ⟨rfl, hX39⟩
      refine ⟨_, rfl, ?_⟩
      have hH40 := hX39.of_all
      have hpl_ := posE_le v.l (last + 1)
      refine za (zc (yi (posE v.l (last + 1))) rfl (zf (ze (hK38 _ _ (yq fun K42 hK42 => (Rest.region mixed (by kernel_rfl) ?_))))))
      have hH43 : Has E { w41 with drawn := w41.drawn + 1 } [(yS sb v db ab x12), s13, sg, (yP pb d.p), (yo ab #[(yp db), (yi 2), (yi n)] 265), R] := Has0.drew hH40 _
      refine Rest.phaseA (fun w_ => Has E w_ [(yS sb v db ab x12)]) 0 11 11 rfl (by decide) (by kernel_rfl) (zn 0 rfl (by kernel_rfl) (fun w_ h_ => zb (yp sb) rfl ⟨rfl, rfl⟩) (zn 1 rfl (by kernel_rfl) (fun w_ h_ => zl rfl ⟨rfl, rfl⟩) (zn 2 rfl (by kernel_rfl) (fun w_ h_ => zg (k := 0) (fun _ => by kernel_rfl) rfl ⟨rfl, rfl⟩) (zn 3 rfl (by kernel_rfl) (fun w_ h_ => zg (k := 0) (fun _ => by kernel_rfl) rfl ⟨rfl, rfl⟩) (zn 4 rfl (by kernel_rfl) (fun w_ h_ => zG (cs := [(yi v.seq), (yi v.ep), (yi v.hcut), (yi v.st), (yi v.mrk)]) Tryz.underlying23 rfl zY rfl h_ (zh 0 rfl) (CellsAt.one rfl) ⟨rfl, rfl⟩) (zn 5 rfl (by kernel_rfl) (fun w_ h_ => zb (yp sb) rfl ⟨rfl, rfl⟩) (zn 6 rfl (by kernel_rfl) (fun w_ h_ => zl rfl ⟨rfl, rfl⟩) (zn 7 rfl (by kernel_rfl) (fun w_ h_ => zg (k := 8) (fun _ => by kernel_rfl) rfl ⟨rfl, rfl⟩) (zn 8 rfl (by kernel_rfl) (fun w_ h_ => zj (v := (yi v.tail)) Tryz.underlying3 rfl rfl h_ (zh 0 rfl) (CellsAt.one rfl) ⟨rfl, rfl⟩) ?_)))))))))
      have hH44 := hH43.first 1 rfl
      refine a_w 9 rfl (by kernel_rfl) hH44 (zU (cs := y0A) zY rfl hH43 fun b45 w46 hH47 => ?_)
      have hH48 := (hH47.front 1 rfl).first 1 rfl
      refine a_we 10 rfl (by kernel_rfl) hH48 (zv (vs := [(yi v.seq), (yi v.ep), (yi v.hcut), (yi v.st), (yi v.mrk)]) (c' := #[(yi v.seq), (yi v.ep), (yi v.hcut), (yi v.st), (yi v.mrk)]) zY rfl rfl rfl rfl y5 (by simp) (by kernel_rfl) (hH47.front 0 rfl) fun w49 hH50 => ?_)
      have hH51 := (hH50.front 1 rfl).first 1 rfl
      refine zM (by kernel_rfl) hH51 (zO 11 rfl (by kernel_rfl) (zc (yi v.tail) rfl (Rest.done (by kernel_rfl) (ze (hK42 _ _ (yq fun K52 hK52 => (yq fun K53 hK53 => (zd (za (zb (yi (posE v.l (last + 1))) rfl (za (zb (yp sb) rfl (za (zl rfl (za (zg (k := 7) (fun _ => by kernel_rfl) rfl (za (zj (v := x12) Tryz.underlying37 rfl rfl hH50 (zh 1 rfl) (CellsAt.one rfl) (za (zQ Tryz.underlying37 rfl f14.sl (za (zL (a := (posE v.l (last + 1))) (b := ((v.l.length : Nat) : Int)) rfl rfl (zf ?_)))))))))))))))))))))))
      refine ze (hK53 _ _ (zt rfl (fun h54 => ?_) (fun h54 => ?_)))
      ·
       refine zd (za (zb (yp sb) rfl (za (zl rfl (za (zg (k := 7) (fun _ => by kernel_rfl) rfl (za (zj (v := x12) Tryz.underlying37 rfl rfl hH50 (zh 1 rfl) (CellsAt.one rfl) (za (zb (yi (posE v.l (last + 1))) rfl ?_))))))))))
       obtain ⟨x58, hx59⟩ : ∃ x_, v.l[((posE v.l (last + 1))).toNat]? = some x_ := zN (by omega)
       refine za (o_indexF enC_len Tryz.underlying37 ti42 rfl f14.sl rfl rfl (by omega) hx59 fun b55 o56 hc57 => (za (zg (k := o56 + 1) (fun _ => by kernel_rfl) rfl (za (zj (v := (yi x58.at_)) Tryz.underlying3 rfl rfl hH50 (zh 2 rfl) (CellsAt.field (k := 1) (ds := [(yi x58.at_)]) hc57 rfl) (za (zc (yi x58.at_) rfl (zf (ze (hK52 _ _ (yq fun K60 hK60 => (zd (za (zg (k := 1) (fun _ => by kernel_rfl) rfl (za (zj (v := (yi v.ep)) Tryz.underlying3 rfl rfl hH50 (zh 0 rfl) (CellsAt.one rfl) (za (zD (a := v.ep) (b := 1) rfl rfl (w64 (by omega) (by omega)) (za (zb (yi x58.at_) rfl (za (zb (yi last) rfl (za (zg (k := 1) (fun _ => by kernel_rfl) rfl (zB (zH (c' := #[(yi v.seq), (yi (v.ep + 1)), (yi v.hcut), (yi v.st), (yi v.mrk)]) ti3 rfl rfl rfl (by simp) rfl (hH50.front 0 rfl) fun w61 hH62 => ?_))))))))))))))))))))))))))
       refine za (zg (k := 2) (fun _ => by kernel_rfl) rfl (zB (zH (c' := #[(yi v.seq), (yi (v.ep + 1)), (yi x58.at_), (yi v.st), (yi v.mrk)]) ti3 rfl rfl rfl (by simp) rfl (hH62.front 0 rfl) fun w63 hH64 => (za (zg (k := 4) (fun _ => by kernel_rfl) rfl (zB (zH (c' := #[(yi v.seq), (yi (v.ep + 1)), (yi x58.at_), (yi v.st), (yi last)]) ti3 rfl rfl rfl (by simp) rfl (hH64.front 0 rfl) fun w65 hH66 => (zf (ze (hK60 _ _ (yq fun K67 hK67 => (yq fun K68 hK68 => (zd (za (zb (yp sb) rfl (za (zG (cs := [(yi v.seq), (yi (v.ep + 1)), (yi x58.at_), (yi v.st), (yi last)]) Tryz.underlying23 rfl zY rfl hH66 (zh 0 rfl) (CellsAt.one rfl) ?_)))))))))))))))))
       have hH69 := Has.cl2 ((hH66.front 2 rfl).front 2 rfl)
       have hd70 : StmAt db ab sb ((yS sb v db ab x12) ++ s13) v := StmAt.mk (v := v) f14
       refine za (zk (vs := #[(yp sb), (.agg #[(yi v.seq), (yi (v.ep + 1)), (yi x58.at_), (yi v.st), (yi last)])]) ca110 rfl (zF rfl rfl) (ssave_c (d := d) (v := v) (((hH69.front 4 rfl).front 4 rfl).front 4 rfl).all4 hd hd70 hf (by omega) hlk h4 (hg.mono (zh 1 rfl)) (h := (Hd.mk v.seq (v.ep + 1) x58.at_ v.st last))) ?_)
       rintro _ w77 ⟨sg71, ss73, rfl, hd72, hs74, hX75⟩
       refine ⟨_, rfl, ?_⟩
       have hH76 : Has E w77 [sg71, (yP pb ((saveS d v (Hd.mk v.seq (v.ep + 1) x58.at_ v.st last)).2.1).p), (yo ab #[(yp db), (yi 2), (yi n)] 265), ss73, (yo b45 #[(yi v.seq), (yi (v.ep + 1)), (yi x58.at_), (yi v.st), (yi last)] 23), R] := hX75.of_all4
       refine za (zc (yi ((saveS d v (Hd.mk v.seq (v.ep + 1) x58.at_ v.st last)).1)) rfl (zf (ze (hK68 _ _ (yq fun K78 hK78 => (zd (za (zb (yi ((saveS d v (Hd.mk v.seq (v.ep + 1) x58.at_ v.st last)).1)) rfl (za (o_neq (a := (saveS d v (Hd.mk v.seq (v.ep + 1) x58.at_ v.st last)).1) (b := 0) rfl rfl (zf (ze (hK78 _ _ (zt rfl (fun h79 => ?_) (fun h79 => ?_)))))))))))))))
       ·
        refine yq fun K80 hK80 => (zd (za (zb (yi ((saveS d v (Hd.mk v.seq (v.ep + 1) x58.at_ v.st last)).1)) rfl (za (zc (yi ((saveS d v (Hd.mk v.seq (v.ep + 1) x58.at_ v.st last)).1)) rfl (zf (ze (hK80 _ _ (wp_ret (zx (zr Tryz.results28  (v := (yi ((saveS d v (Hd.mk v.seq (v.ep + 1) x58.at_ v.st last)).1))) rfl ?_)))))))))))
        have hH81 := (((((hH76.front 5 rfl).front 4 rfl).front 4 rfl).front 4 rfl).front 4 rfl).first 5 rfl
        have hE_ : (ctS d v last) = ((saveS d v (Hd.mk v.seq (v.ep + 1) x58.at_ v.st last)).1, (saveS d v (Hd.mk v.seq (v.ep + 1) x58.at_ v.st last)).2.1, (saveS d v (Hd.mk v.seq (v.ep + 1) x58.at_ v.st last)).2.2) := by
         have hT_ := cutTail_some (show v.l[(posE v.l (last + 1)).toNat]? = some _ from hx59)
         unfold ctS ctH; rw [hT_, if_neg h8, if_neg (by rw [h16]; decide), if_neg (by omega), if_neg (by omega), if_pos h79]
        exact ⟨_, _, by rw [hE_], by rw [hE_]; exact hd72, by rw [hE_]; exact hs74, by rw [hE_]; exact hH81⟩
       ·
        have hsl_ : (saveS d v (Hd.mk v.seq (v.ep + 1) x58.at_ v.st last)).2.2.l.length = v.l.length := by rw [saveS_l]
        refine wp_skip (ze (hK67 _ _ (yq fun K82 hK82 => (zd (za (zb (yp sb) rfl (za (zb (yp sb) rfl (za (zb (yp sb) rfl (za (zb (yp sb) rfl (za (zb (yp sb) rfl (za (zl rfl ?_))))))))))))))))
        obtain ⟨x83, s84, rfl, f85⟩ := hs74
        have hH86 : Has E w77 [(yo sb #[(yi (((saveS d v (Hd.mk v.seq (v.ep + 1) x58.at_ v.st last)).2.2).seq)), (yi (((saveS d v (Hd.mk v.seq (v.ep + 1) x58.at_ v.st last)).2.2).ep)), (yi (((saveS d v (Hd.mk v.seq (v.ep + 1) x58.at_ v.st last)).2.2).hcut)), (yi (((saveS d v (Hd.mk v.seq (v.ep + 1) x58.at_ v.st last)).2.2).st)), (yi (((saveS d v (Hd.mk v.seq (v.ep + 1) x58.at_ v.st last)).2.2).mrk)), (yp db), (yp ab), x83, (yi (((saveS d v (Hd.mk v.seq (v.ep + 1) x58.at_ v.st last)).2.2).tail)), (yi (((saveS d v (Hd.mk v.seq (v.ep + 1) x58.at_ v.st last)).2.2).flushed)), (yi (((saveS d v (Hd.mk v.seq (v.ep + 1) x58.at_ v.st last)).2.2).res)), (.bool (((saveS d v (Hd.mk v.seq (v.ep + 1) x58.at_ v.st last)).2.2).cut)), (yi (((saveS d v (Hd.mk v.seq (v.ep + 1) x58.at_ v.st last)).2.2).err))] 175), s84, sg71, (yP pb ((saveS d v (Hd.mk v.seq (v.ep + 1) x58.at_ v.st last)).2.1).p), (yo ab #[(yp db), (yi 2), (yi n)] 265), (yo b45 #[(yi v.seq), (yi (v.ep + 1)), (yi x58.at_), (yi v.st), (yi last)] 23), R] := Has.op2 (hH76.front 3 rfl)
        refine za (zg (k := 7) (fun _ => by kernel_rfl) rfl (za (zj (v := x83) Tryz.underlying37 rfl rfl hH86 (zh 0 rfl) (CellsAt.one rfl) (za (zb (yi (posE v.l (last + 1))) rfl (za (zb (yi (posE v.l (last + 1))) rfl (za (o_slhm Tryz.underlying37 ti42 rfl f85.sl rfl rfl (by omega) (by omega) (za (zb (yi x58.at_) rfl (za (zb (yi (posE v.l (last + 1))) rfl (za (zl rfl (za (zg (k := 7) (fun _ => by kernel_rfl) rfl (zB (zH (c' := #[(yi (((saveS d v (Hd.mk v.seq (v.ep + 1) x58.at_ v.st last)).2.2).seq)), (yi (((saveS d v (Hd.mk v.seq (v.ep + 1) x58.at_ v.st last)).2.2).ep)), (yi (((saveS d v (Hd.mk v.seq (v.ep + 1) x58.at_ v.st last)).2.2).hcut)), (yi (((saveS d v (Hd.mk v.seq (v.ep + 1) x58.at_ v.st last)).2.2).st)), (yi (((saveS d v (Hd.mk v.seq (v.ep + 1) x58.at_ v.st last)).2.2).mrk)), (yp db), (yp ab), (cutV x83 ((posE v.l (last + 1))).toNat 3), (yi (((saveS d v (Hd.mk v.seq (v.ep + 1) x58.at_ v.st last)).2.2).tail)), (yi (((saveS d v (Hd.mk v.seq (v.ep + 1) x58.at_ v.st last)).2.2).flushed)), (yi (((saveS d v (Hd.mk v.seq (v.ep + 1) x58.at_ v.st last)).2.2).res)), (.bool (((saveS d v (Hd.mk v.seq (v.ep + 1) x58.at_ v.st last)).2.2).cut)), (yi (((saveS d v (Hd.mk v.seq (v.ep + 1) x58.at_ v.st last)).2.2).err))]) ti37 rfl rfl (OwnL.one (ownL_cut (f := enC) (fun _ => rfl) f85 (show ((posE v.l (last + 1))).toNat ≤ (((saveS d v (Hd.mk v.seq (v.ep + 1) x58.at_ v.st last)).2.2).l).length by omega))) (by simp) rfl (hH86.front 0 rfl) fun w87 hH88 => (za (zl rfl (za (zg (k := 8) (fun _ => by kernel_rfl) rfl (zB (zH (c' := #[(yi (((saveS d v (Hd.mk v.seq (v.ep + 1) x58.at_ v.st last)).2.2).seq)), (yi (((saveS d v (Hd.mk v.seq (v.ep + 1) x58.at_ v.st last)).2.2).ep)), (yi (((saveS d v (Hd.mk v.seq (v.ep + 1) x58.at_ v.st last)).2.2).hcut)), (yi (((saveS d v (Hd.mk v.seq (v.ep + 1) x58.at_ v.st last)).2.2).st)), (yi (((saveS d v (Hd.mk v.seq (v.ep + 1) x58.at_ v.st last)).2.2).mrk)), (yp db), (yp ab), (cutV x83 ((posE v.l (last + 1))).toNat 3), (yi x58.at_), (yi (((saveS d v (Hd.mk v.seq (v.ep + 1) x58.at_ v.st last)).2.2).flushed)), (yi (((saveS d v (Hd.mk v.seq (v.ep + 1) x58.at_ v.st last)).2.2).res)), (.bool (((saveS d v (Hd.mk v.seq (v.ep + 1) x58.at_ v.st last)).2.2).cut)), (yi (((saveS d v (Hd.mk v.seq (v.ep + 1) x58.at_ v.st last)).2.2).err))]) ti3 rfl rfl rfl (by simp) rfl (hH88.front 0 rfl) fun w89 hH90 => (za (zl rfl (za (zg (k := 9) (fun _ => by kernel_rfl) rfl ?_)))))))))))))))))))))))))))))
        refine zB (zH (c' := #[(yi (((saveS d v (Hd.mk v.seq (v.ep + 1) x58.at_ v.st last)).2.2).seq)), (yi (((saveS d v (Hd.mk v.seq (v.ep + 1) x58.at_ v.st last)).2.2).ep)), (yi (((saveS d v (Hd.mk v.seq (v.ep + 1) x58.at_ v.st last)).2.2).hcut)), (yi (((saveS d v (Hd.mk v.seq (v.ep + 1) x58.at_ v.st last)).2.2).st)), (yi (((saveS d v (Hd.mk v.seq (v.ep + 1) x58.at_ v.st last)).2.2).mrk)), (yp db), (yp ab), (cutV x83 ((posE v.l (last + 1))).toNat 3), (yi x58.at_), (yi (posE v.l (last + 1))), (yi (((saveS d v (Hd.mk v.seq (v.ep + 1) x58.at_ v.st last)).2.2).res)), (.bool (((saveS d v (Hd.mk v.seq (v.ep + 1) x58.at_ v.st last)).2.2).cut)), (yi (((saveS d v (Hd.mk v.seq (v.ep + 1) x58.at_ v.st last)).2.2).err))]) ti3 rfl rfl rfl (by simp) rfl (hH90.front 0 rfl) fun w91 hH92 => (za (zl rfl (za (zg (k := 11) (fun _ => by kernel_rfl) rfl (zB (zH (c' := #[(yi (((saveS d v (Hd.mk v.seq (v.ep + 1) x58.at_ v.st last)).2.2).seq)), (yi (((saveS d v (Hd.mk v.seq (v.ep + 1) x58.at_ v.st last)).2.2).ep)), (yi (((saveS d v (Hd.mk v.seq (v.ep + 1) x58.at_ v.st last)).2.2).hcut)), (yi (((saveS d v (Hd.mk v.seq (v.ep + 1) x58.at_ v.st last)).2.2).st)), (yi (((saveS d v (Hd.mk v.seq (v.ep + 1) x58.at_ v.st last)).2.2).mrk)), (yp db), (yp ab), (cutV x83 ((posE v.l (last + 1))).toNat 3), (yi x58.at_), (yi (posE v.l (last + 1))), (yi (((saveS d v (Hd.mk v.seq (v.ep + 1) x58.at_ v.st last)).2.2).res)), (.bool true), (yi (((saveS d v (Hd.mk v.seq (v.ep + 1) x58.at_ v.st last)).2.2).err))]) ti4 rfl rfl rfl (by simp) rfl (hH92.front 0 rfl) fun w93 hH94 => (zf (ze (hK82 _ _ (yq fun K95 hK95 => (zd (za (zc (yi 0) rfl (zf (ze (hK95 _ _ (wp_ret (zr Tryz.results28  (v := (yi 0)) rfl ?_)))))))))))))))))))
        have hH96 := Has.cl2 ((hH94.front 1 rfl).front 1 rfl)
        have hd97 : StmAt db ab sb ((yo sb #[(yi (((saveS d v (Hd.mk v.seq (v.ep + 1) x58.at_ v.st last)).2.2).seq)), (yi (((saveS d v (Hd.mk v.seq (v.ep + 1) x58.at_ v.st last)).2.2).ep)), (yi (((saveS d v (Hd.mk v.seq (v.ep + 1) x58.at_ v.st last)).2.2).hcut)), (yi (((saveS d v (Hd.mk v.seq (v.ep + 1) x58.at_ v.st last)).2.2).st)), (yi (((saveS d v (Hd.mk v.seq (v.ep + 1) x58.at_ v.st last)).2.2).mrk)), (yp db), (yp ab), (cutV x83 ((posE v.l (last + 1))).toNat 3), (yi x58.at_), (yi (posE v.l (last + 1))), (yi (((saveS d v (Hd.mk v.seq (v.ep + 1) x58.at_ v.st last)).2.2).res)), (.bool true), (yi (((saveS d v (Hd.mk v.seq (v.ep + 1) x58.at_ v.st last)).2.2).err))] 175) ++ s84) (⟨((saveS d v (Hd.mk v.seq (v.ep + 1) x58.at_ v.st last)).2.2).seq, ((saveS d v (Hd.mk v.seq (v.ep + 1) x58.at_ v.st last)).2.2).ep, ((saveS d v (Hd.mk v.seq (v.ep + 1) x58.at_ v.st last)).2.2).hcut, ((saveS d v (Hd.mk v.seq (v.ep + 1) x58.at_ v.st last)).2.2).st, ((saveS d v (Hd.mk v.seq (v.ep + 1) x58.at_ v.st last)).2.2).mrk, ((((saveS d v (Hd.mk v.seq (v.ep + 1) x58.at_ v.st last)).2.2).l).take ((posE v.l (last + 1))).toNat), x58.at_, (posE v.l (last + 1)), ((saveS d v (Hd.mk v.seq (v.ep + 1) x58.at_ v.st last)).2.2).res, true, ((saveS d v (Hd.mk v.seq (v.ep + 1) x58.at_ v.st last)).2.2).err⟩ : StmS) := StmAt.mk (v := (⟨((saveS d v (Hd.mk v.seq (v.ep + 1) x58.at_ v.st last)).2.2).seq, ((saveS d v (Hd.mk v.seq (v.ep + 1) x58.at_ v.st last)).2.2).ep, ((saveS d v (Hd.mk v.seq (v.ep + 1) x58.at_ v.st last)).2.2).hcut, ((saveS d v (Hd.mk v.seq (v.ep + 1) x58.at_ v.st last)).2.2).st, ((saveS d v (Hd.mk v.seq (v.ep + 1) x58.at_ v.st last)).2.2).mrk, ((((saveS d v (Hd.mk v.seq (v.ep + 1) x58.at_ v.st last)).2.2).l).take ((posE v.l (last + 1))).toNat), x58.at_, (posE v.l (last + 1)), ((saveS d v (Hd.mk v.seq (v.ep + 1) x58.at_ v.st last)).2.2).res, true, ((saveS d v (Hd.mk v.seq (v.ep + 1) x58.at_ v.st last)).2.2).err⟩ : StmS)) (ownL_cut (f := enC) (fun _ => rfl) f85 (show ((posE v.l (last + 1))).toNat ≤ (((saveS d v (Hd.mk v.seq (v.ep + 1) x58.at_ v.st last)).2.2).l).length by omega))
        have hH98 := (((((hH96.front 5 rfl).front 1 rfl).front 4 rfl).front 4 rfl).front 4 rfl).first 5 rfl
        have hE_ : (ctS d v last) = (0, (saveS d v (Hd.mk v.seq (v.ep + 1) x58.at_ v.st last)).2.1, (⟨((saveS d v (Hd.mk v.seq (v.ep + 1) x58.at_ v.st last)).2.2).seq, ((saveS d v (Hd.mk v.seq (v.ep + 1) x58.at_ v.st last)).2.2).ep, ((saveS d v (Hd.mk v.seq (v.ep + 1) x58.at_ v.st last)).2.2).hcut, ((saveS d v (Hd.mk v.seq (v.ep + 1) x58.at_ v.st last)).2.2).st, ((saveS d v (Hd.mk v.seq (v.ep + 1) x58.at_ v.st last)).2.2).mrk, ((((saveS d v (Hd.mk v.seq (v.ep + 1) x58.at_ v.st last)).2.2).l).take ((posE v.l (last + 1))).toNat), x58.at_, (posE v.l (last + 1)), ((saveS d v (Hd.mk v.seq (v.ep + 1) x58.at_ v.st last)).2.2).res, true, ((saveS d v (Hd.mk v.seq (v.ep + 1) x58.at_ v.st last)).2.2).err⟩ : StmS)) := by
         have hT_ := cutTail_some (show v.l[(posE v.l (last + 1)).toNat]? = some _ from hx59)
         unfold ctS ctH; rw [hT_, if_neg h8, if_neg (by rw [h16]; decide), if_neg (by omega), if_neg (by omega), if_neg h79]
        exact ⟨_, _, by rw [hE_], by rw [hE_]; exact hd72, by rw [hE_]; exact hd97, by rw [hE_]; exact hH98⟩
      ·
       refine wp_skip (ze (hK52 _ _ (yq fun K99 hK99 => (zd (za (zg (k := 1) (fun _ => by kernel_rfl) rfl (za (zj (v := (yi v.ep)) Tryz.underlying3 rfl rfl hH50 (zh 0 rfl) (CellsAt.one rfl) (za (zD (a := v.ep) (b := 1) rfl rfl (w64 (by omega) (by omega)) (za (zb (yi v.tail) rfl (za (zb (yi last) rfl (za (zg (k := 1) (fun _ => by kernel_rfl) rfl (zB (zH (c' := #[(yi v.seq), (yi (v.ep + 1)), (yi v.hcut), (yi v.st), (yi v.mrk)]) ti3 rfl rfl rfl (by simp) rfl (hH50.front 0 rfl) fun w100 hH101 => (za (zg (k := 2) (fun _ => by kernel_rfl) rfl (zB (zH (c' := #[(yi v.seq), (yi (v.ep + 1)), (yi v.tail), (yi v.st), (yi v.mrk)]) ti3 rfl rfl rfl (by simp) rfl (hH101.front 0 rfl) fun w102 hH103 => (za (zg (k := 4) (fun _ => by kernel_rfl) rfl (zB (zH (c' := #[(yi v.seq), (yi (v.ep + 1)), (yi v.tail), (yi v.st), (yi last)]) ti3 rfl rfl rfl (by simp) rfl (hH103.front 0 rfl) fun w104 hH105 => ?_))))))))))))))))))))))))))
       refine zf (ze (hK99 _ _ (yq fun K106 hK106 => (yq fun K107 hK107 => (zd (za (zb (yp sb) rfl (za (zG (cs := [(yi v.seq), (yi (v.ep + 1)), (yi v.tail), (yi v.st), (yi last)]) Tryz.underlying23 rfl zY rfl hH105 (zh 0 rfl) (CellsAt.one rfl) ?_)))))))))
       have hH108 := Has.cl2 ((hH105.front 2 rfl).front 2 rfl)
       have hd109 : StmAt db ab sb ((yS sb v db ab x12) ++ s13) v := StmAt.mk (v := v) f14
       refine za (zk (vs := #[(yp sb), (.agg #[(yi v.seq), (yi (v.ep + 1)), (yi v.tail), (yi v.st), (yi last)])]) ca110 rfl (zF rfl rfl) (ssave_c (d := d) (v := v) (((hH108.front 4 rfl).front 4 rfl).front 4 rfl).all4 hd hd109 hf (by omega) hlk h4 (hg.mono (zh 1 rfl)) (h := (Hd.mk v.seq (v.ep + 1) v.tail v.st last))) ?_)
       rintro _ w116 ⟨sg110, ss112, rfl, hd111, hs113, hX114⟩
       refine ⟨_, rfl, ?_⟩
       have hH115 : Has E w116 [sg110, (yP pb ((saveS d v (Hd.mk v.seq (v.ep + 1) v.tail v.st last)).2.1).p), (yo ab #[(yp db), (yi 2), (yi n)] 265), ss112, (yo b45 #[(yi v.seq), (yi (v.ep + 1)), (yi v.tail), (yi v.st), (yi last)] 23), R] := hX114.of_all4
       refine za (zc (yi ((saveS d v (Hd.mk v.seq (v.ep + 1) v.tail v.st last)).1)) rfl (zf (ze (hK107 _ _ (yq fun K117 hK117 => (zd (za (zb (yi ((saveS d v (Hd.mk v.seq (v.ep + 1) v.tail v.st last)).1)) rfl (za (o_neq (a := (saveS d v (Hd.mk v.seq (v.ep + 1) v.tail v.st last)).1) (b := 0) rfl rfl (zf (ze (hK117 _ _ (zt rfl (fun h118 => ?_) (fun h118 => ?_)))))))))))))))
       ·
        refine yq fun K119 hK119 => (zd (za (zb (yi ((saveS d v (Hd.mk v.seq (v.ep + 1) v.tail v.st last)).1)) rfl (za (zc (yi ((saveS d v (Hd.mk v.seq (v.ep + 1) v.tail v.st last)).1)) rfl (zf (ze (hK119 _ _ (wp_ret (zx (zr Tryz.results28  (v := (yi ((saveS d v (Hd.mk v.seq (v.ep + 1) v.tail v.st last)).1))) rfl ?_)))))))))))
        have hH120 := (((((hH115.front 5 rfl).front 4 rfl).front 4 rfl).front 4 rfl).front 4 rfl).first 5 rfl
        have hE_ : (ctS d v last) = ((saveS d v (Hd.mk v.seq (v.ep + 1) v.tail v.st last)).1, (saveS d v (Hd.mk v.seq (v.ep + 1) v.tail v.st last)).2.1, (saveS d v (Hd.mk v.seq (v.ep + 1) v.tail v.st last)).2.2) := by
         have hT_ := cutTail_none (v := v) (k := (posE v.l (last + 1)).toNat) (by omega)
         unfold ctS ctH; rw [hT_, if_neg h8, if_neg (by rw [h16]; decide), if_neg (by omega), if_neg (by omega), if_pos h118]
        exact ⟨_, _, by rw [hE_], by rw [hE_]; exact hd111, by rw [hE_]; exact hs113, by rw [hE_]; exact hH120⟩
       ·
        have hsl_ : (saveS d v (Hd.mk v.seq (v.ep + 1) v.tail v.st last)).2.2.l.length = v.l.length := by rw [saveS_l]
        refine wp_skip (ze (hK106 _ _ (yq fun K121 hK121 => (zd (za (zb (yp sb) rfl (za (zb (yp sb) rfl (za (zb (yp sb) rfl (za (zb (yp sb) rfl (za (zb (yp sb) rfl (za (zl rfl ?_))))))))))))))))
        obtain ⟨x122, s123, rfl, f124⟩ := hs113
        have hH125 : Has E w116 [(yo sb #[(yi (((saveS d v (Hd.mk v.seq (v.ep + 1) v.tail v.st last)).2.2).seq)), (yi (((saveS d v (Hd.mk v.seq (v.ep + 1) v.tail v.st last)).2.2).ep)), (yi (((saveS d v (Hd.mk v.seq (v.ep + 1) v.tail v.st last)).2.2).hcut)), (yi (((saveS d v (Hd.mk v.seq (v.ep + 1) v.tail v.st last)).2.2).st)), (yi (((saveS d v (Hd.mk v.seq (v.ep + 1) v.tail v.st last)).2.2).mrk)), (yp db), (yp ab), x122, (yi (((saveS d v (Hd.mk v.seq (v.ep + 1) v.tail v.st last)).2.2).tail)), (yi (((saveS d v (Hd.mk v.seq (v.ep + 1) v.tail v.st last)).2.2).flushed)), (yi (((saveS d v (Hd.mk v.seq (v.ep + 1) v.tail v.st last)).2.2).res)), (.bool (((saveS d v (Hd.mk v.seq (v.ep + 1) v.tail v.st last)).2.2).cut)), (yi (((saveS d v (Hd.mk v.seq (v.ep + 1) v.tail v.st last)).2.2).err))] 175), s123, sg110, (yP pb ((saveS d v (Hd.mk v.seq (v.ep + 1) v.tail v.st last)).2.1).p), (yo ab #[(yp db), (yi 2), (yi n)] 265), (yo b45 #[(yi v.seq), (yi (v.ep + 1)), (yi v.tail), (yi v.st), (yi last)] 23), R] := Has.op2 (hH115.front 3 rfl)
        refine za (zg (k := 7) (fun _ => by kernel_rfl) rfl (za (zj (v := x122) Tryz.underlying37 rfl rfl hH125 (zh 0 rfl) (CellsAt.one rfl) (za (zb (yi (posE v.l (last + 1))) rfl (za (zb (yi (posE v.l (last + 1))) rfl (za (o_slhm Tryz.underlying37 ti42 rfl f124.sl rfl rfl (by omega) (by omega) (za (zb (yi v.tail) rfl (za (zb (yi (posE v.l (last + 1))) rfl (za (zl rfl (za (zg (k := 7) (fun _ => by kernel_rfl) rfl (zB (zH (c' := #[(yi (((saveS d v (Hd.mk v.seq (v.ep + 1) v.tail v.st last)).2.2).seq)), (yi (((saveS d v (Hd.mk v.seq (v.ep + 1) v.tail v.st last)).2.2).ep)), (yi (((saveS d v (Hd.mk v.seq (v.ep + 1) v.tail v.st last)).2.2).hcut)), (yi (((saveS d v (Hd.mk v.seq (v.ep + 1) v.tail v.st last)).2.2).st)), (yi (((saveS d v (Hd.mk v.seq (v.ep + 1) v.tail v.st last)).2.2).mrk)), (yp db), (yp ab), (cutV x122 ((posE v.l (last + 1))).toNat 3), (yi (((saveS d v (Hd.mk v.seq (v.ep + 1) v.tail v.st last)).2.2).tail)), (yi (((saveS d v (Hd.mk v.seq (v.ep + 1) v.tail v.st last)).2.2).flushed)), (yi (((saveS d v (Hd.mk v.seq (v.ep + 1) v.tail v.st last)).2.2).res)), (.bool (((saveS d v (Hd.mk v.seq (v.ep + 1) v.tail v.st last)).2.2).cut)), (yi (((saveS d v (Hd.mk v.seq (v.ep + 1) v.tail v.st last)).2.2).err))]) ti37 rfl rfl (OwnL.one (ownL_cut (f := enC) (fun _ => rfl) f124 (show ((posE v.l (last + 1))).toNat ≤ (((saveS d v (Hd.mk v.seq (v.ep + 1) v.tail v.st last)).2.2).l).length by omega))) (by simp) rfl (hH125.front 0 rfl) fun w126 hH127 => (za (zl rfl (za (zg (k := 8) (fun _ => by kernel_rfl) rfl (zB (zH (c' := #[(yi (((saveS d v (Hd.mk v.seq (v.ep + 1) v.tail v.st last)).2.2).seq)), (yi (((saveS d v (Hd.mk v.seq (v.ep + 1) v.tail v.st last)).2.2).ep)), (yi (((saveS d v (Hd.mk v.seq (v.ep + 1) v.tail v.st last)).2.2).hcut)), (yi (((saveS d v (Hd.mk v.seq (v.ep + 1) v.tail v.st last)).2.2).st)), (yi (((saveS d v (Hd.mk v.seq (v.ep + 1) v.tail v.st last)).2.2).mrk)), (yp db), (yp ab), (cutV x122 ((posE v.l (last + 1))).toNat 3), (yi v.tail), (yi (((saveS d v (Hd.mk v.seq (v.ep + 1) v.tail v.st last)).2.2).flushed)), (yi (((saveS d v (Hd.mk v.seq (v.ep + 1) v.tail v.st last)).2.2).res)), (.bool (((saveS d v (Hd.mk v.seq (v.ep + 1) v.tail v.st last)).2.2).cut)), (yi (((saveS d v (Hd.mk v.seq (v.ep + 1) v.tail v.st last)).2.2).err))]) ti3 rfl rfl rfl (by simp) rfl (hH127.front 0 rfl) fun w128 hH129 => (za (zl rfl (za (zg (k := 9) (fun _ => by kernel_rfl) rfl ?_)))))))))))))))))))))))))))))
        refine zB (zH (c' := #[(yi (((saveS d v (Hd.mk v.seq (v.ep + 1) v.tail v.st last)).2.2).seq)), (yi (((saveS d v (Hd.mk v.seq (v.ep + 1) v.tail v.st last)).2.2).ep)), (yi (((saveS d v (Hd.mk v.seq (v.ep + 1) v.tail v.st last)).2.2).hcut)), (yi (((saveS d v (Hd.mk v.seq (v.ep + 1) v.tail v.st last)).2.2).st)), (yi (((saveS d v (Hd.mk v.seq (v.ep + 1) v.tail v.st last)).2.2).mrk)), (yp db), (yp ab), (cutV x122 ((posE v.l (last + 1))).toNat 3), (yi v.tail), (yi (posE v.l (last + 1))), (yi (((saveS d v (Hd.mk v.seq (v.ep + 1) v.tail v.st last)).2.2).res)), (.bool (((saveS d v (Hd.mk v.seq (v.ep + 1) v.tail v.st last)).2.2).cut)), (yi (((saveS d v (Hd.mk v.seq (v.ep + 1) v.tail v.st last)).2.2).err))]) ti3 rfl rfl rfl (by simp) rfl (hH129.front 0 rfl) fun w130 hH131 => (za (zl rfl (za (zg (k := 11) (fun _ => by kernel_rfl) rfl (zB (zH (c' := #[(yi (((saveS d v (Hd.mk v.seq (v.ep + 1) v.tail v.st last)).2.2).seq)), (yi (((saveS d v (Hd.mk v.seq (v.ep + 1) v.tail v.st last)).2.2).ep)), (yi (((saveS d v (Hd.mk v.seq (v.ep + 1) v.tail v.st last)).2.2).hcut)), (yi (((saveS d v (Hd.mk v.seq (v.ep + 1) v.tail v.st last)).2.2).st)), (yi (((saveS d v (Hd.mk v.seq (v.ep + 1) v.tail v.st last)).2.2).mrk)), (yp db), (yp ab), (cutV x122 ((posE v.l (last + 1))).toNat 3), (yi v.tail), (yi (posE v.l (last + 1))), (yi (((saveS d v (Hd.mk v.seq (v.ep + 1) v.tail v.st last)).2.2).res)), (.bool true), (yi (((saveS d v (Hd.mk v.seq (v.ep + 1) v.tail v.st last)).2.2).err))]) ti4 rfl rfl rfl (by simp) rfl (hH131.front 0 rfl) fun w132 hH133 => (zf (ze (hK121 _ _ (yq fun K134 hK134 => (zd (za (zc (yi 0) rfl (zf (ze (hK134 _ _ (wp_ret (zr Tryz.results28  (v := (yi 0)) rfl ?_)))))))))))))))))))
        have hH135 := Has.cl2 ((hH133.front 1 rfl).front 1 rfl)
        have hd136 : StmAt db ab sb ((yo sb #[(yi (((saveS d v (Hd.mk v.seq (v.ep + 1) v.tail v.st last)).2.2).seq)), (yi (((saveS d v (Hd.mk v.seq (v.ep + 1) v.tail v.st last)).2.2).ep)), (yi (((saveS d v (Hd.mk v.seq (v.ep + 1) v.tail v.st last)).2.2).hcut)), (yi (((saveS d v (Hd.mk v.seq (v.ep + 1) v.tail v.st last)).2.2).st)), (yi (((saveS d v (Hd.mk v.seq (v.ep + 1) v.tail v.st last)).2.2).mrk)), (yp db), (yp ab), (cutV x122 ((posE v.l (last + 1))).toNat 3), (yi v.tail), (yi (posE v.l (last + 1))), (yi (((saveS d v (Hd.mk v.seq (v.ep + 1) v.tail v.st last)).2.2).res)), (.bool true), (yi (((saveS d v (Hd.mk v.seq (v.ep + 1) v.tail v.st last)).2.2).err))] 175) ++ s123) (⟨((saveS d v (Hd.mk v.seq (v.ep + 1) v.tail v.st last)).2.2).seq, ((saveS d v (Hd.mk v.seq (v.ep + 1) v.tail v.st last)).2.2).ep, ((saveS d v (Hd.mk v.seq (v.ep + 1) v.tail v.st last)).2.2).hcut, ((saveS d v (Hd.mk v.seq (v.ep + 1) v.tail v.st last)).2.2).st, ((saveS d v (Hd.mk v.seq (v.ep + 1) v.tail v.st last)).2.2).mrk, ((((saveS d v (Hd.mk v.seq (v.ep + 1) v.tail v.st last)).2.2).l).take ((posE v.l (last + 1))).toNat), v.tail, (posE v.l (last + 1)), ((saveS d v (Hd.mk v.seq (v.ep + 1) v.tail v.st last)).2.2).res, true, ((saveS d v (Hd.mk v.seq (v.ep + 1) v.tail v.st last)).2.2).err⟩ : StmS) := StmAt.mk (v := (⟨((saveS d v (Hd.mk v.seq (v.ep + 1) v.tail v.st last)).2.2).seq, ((saveS d v (Hd.mk v.seq (v.ep + 1) v.tail v.st last)).2.2).ep, ((saveS d v (Hd.mk v.seq (v.ep + 1) v.tail v.st last)).2.2).hcut, ((saveS d v (Hd.mk v.seq (v.ep + 1) v.tail v.st last)).2.2).st, ((saveS d v (Hd.mk v.seq (v.ep + 1) v.tail v.st last)).2.2).mrk, ((((saveS d v (Hd.mk v.seq (v.ep + 1) v.tail v.st last)).2.2).l).take ((posE v.l (last + 1))).toNat), v.tail, (posE v.l (last + 1)), ((saveS d v (Hd.mk v.seq (v.ep + 1) v.tail v.st last)).2.2).res, true, ((saveS d v (Hd.mk v.seq (v.ep + 1) v.tail v.st last)).2.2).err⟩ : StmS)) (ownL_cut (f := enC) (fun _ => rfl) f124 (show ((posE v.l (last + 1))).toNat ≤ (((saveS d v (Hd.mk v.seq (v.ep + 1) v.tail v.st last)).2.2).l).length by omega))
        have hH137 := (((((hH135.front 5 rfl).front 1 rfl).front 4 rfl).front 4 rfl).front 4 rfl).first 5 rfl
        have hE_ : (ctS d v last) = (0, (saveS d v (Hd.mk v.seq (v.ep + 1) v.tail v.st last)).2.1, (⟨((saveS d v (Hd.mk v.seq (v.ep + 1) v.tail v.st last)).2.2).seq, ((saveS d v (Hd.mk v.seq (v.ep + 1) v.tail v.st last)).2.2).ep, ((saveS d v (Hd.mk v.seq (v.ep + 1) v.tail v.st last)).2.2).hcut, ((saveS d v (Hd.mk v.seq (v.ep + 1) v.tail v.st last)).2.2).st, ((saveS d v (Hd.mk v.seq (v.ep + 1) v.tail v.st last)).2.2).mrk, ((((saveS d v (Hd.mk v.seq (v.ep + 1) v.tail v.st last)).2.2).l).take ((posE v.l (last + 1))).toNat), v.tail, (posE v.l (last + 1)), ((saveS d v (Hd.mk v.seq (v.ep + 1) v.tail v.st last)).2.2).res, true, ((saveS d v (Hd.mk v.seq (v.ep + 1) v.tail v.st last)).2.2).err⟩ : StmS)) := by
         have hT_ := cutTail_none (v := v) (k := (posE v.l (last + 1)).toNat) (by omega)
         unfold ctS ctH; rw [hT_, if_neg h8, if_neg (by rw [h16]; decide), if_neg (by omega), if_neg (by omega), if_neg h118]
        exact ⟨_, _, by rw [hE_], by rw [hE_]; exact hd111, by rw [hE_]; exact hd136, by rw [hE_]; exact hH137⟩
end Go.Q
namespace Go.Q
open Go.Proofs
set_option linter.unusedVariables false
set_option maxRecDepth 100000
attribute [local irreducible] wpList OK Code.wp
end Go.Q
namespace Go.Q
open Go.Proofs
set_option linter.unusedVariables false
set_option maxRecDepth 100000
attribute [local irreducible] wpList OK Code.wp
end Go.Q
namespace Go.Q
open Go.Proofs
set_option linter.unusedVariables false
set_option maxRecDepth 100000
attribute [local irreducible] wpList OK Code.wp
theorem anew_c {E w : World} {R sg : List Hp} {db pb : Nat} {p : Pw} {la : List Bs} {lo : List (Int × Bs)} (hH : Has E w [sg, (yP pb p), R]) (hd : DevAt pb sg db la lo) {fr n : Int} (hfr : 0 ≤ fr) (hn : 1 ≤ n) (hfn : fr + n ≤ la.length) (hla : la.length ≤ 4096) :
  Calls Tryz.prog 268 #[(yp db), (yi fr), (yi n)] w fun e w' => ∃ ab, e = .returned (yp ab) ∧ Has E w' [(yo ab #[(yp db), (yi fr), (yi n)] 265), sg, (yP pb p), R] := by
 refine zs (args := [(yp db), (yi fr), (yi n)]) Tryz.func268 rfl Tryz.ntmps268 (by simp) (yq fun K1 hK1 => (zd (za (zc (.pointer none) rfl (zf (ze (hK1 _ _ (yq fun K2 hK2 => (yq fun K3 hK3 => (zd (za (zb (yi fr) rfl (za (zL (a := fr) (b := 0) rfl rfl (za (zb (.bool (decide (fr < 0))) rfl ?_))))))))))))))))
 by_cases h4 : fr < 0
 ·
  exfalso; omega
 ·
  refine zo 9 rfl (cF h4) (zb (yi n) rfl (zo 9 rfl (cF h4) (zL (a := n) (b := 1) rfl rfl (za (zm (u := (.bool (decide (n < 1)))) ((rfl : _ = _).trans (cF h4)) rfl (za (zb (.bool (decide (n < 1))) rfl ?_)))))))
  by_cases h5 : n < 1
  ·
   exfalso; omega
  ·
   refine zo 13 rfl (cF h5) (zb (yi n) rfl (zo 13 rfl (cF h5) (zb (yp db) rfl (zo 13 rfl (cF h5) (zk (vs := #[(yp db)]) ca85 rfl (zI rfl) (sectors_d (p := p) (la := la) (lo := lo) ((hH.front 1 rfl).front 1 rfl).all2 hd ) ?_)))))
   rintro _ w8 ⟨rfl, hX6⟩
   refine ⟨_, rfl, ?_⟩
   have hH7 := hX6.of_all2
   refine zo 13 rfl (cF h5) (o_gtr (a := n) (b := ((la.length : Nat) : Int)) rfl rfl (za (zm (u := (.bool (decide (((la.length : Nat) : Int) < n)))) ((rfl : _ = _).trans (cF h5)) rfl (za (zb (.bool (decide (((la.length : Nat) : Int) < n))) rfl ?_)))))
   by_cases h9 : ((la.length : Nat) : Int) < n
   ·
    exfalso; omega
   ·
    refine zo 19 rfl (cF h9) (zb (yi fr) rfl (zo 19 rfl (cF h9) (zb (yp db) rfl (zo 19 rfl (cF h9) (zk (vs := #[(yp db)]) ca85 rfl (zI rfl) (sectors_d (p := p) (la := la) (lo := lo) ((hH7.front 1 rfl).front 1 rfl).all2 hd ) ?_)))))
    rintro _ w12 ⟨rfl, hX10⟩
    refine ⟨_, rfl, ?_⟩
    have hH11 := hX10.of_all2
    refine zo 19 rfl (cF h9) (zb (yi n) rfl (zo 19 rfl (cF h9) (o_sub (a := ((la.length : Nat) : Int)) (b := n) rfl rfl (w64 (by omega) (by omega)) (zo 19 rfl (cF h9) (o_gtr (a := fr) (b := ((la.length : Nat) : Int) - n) rfl rfl (za (zm (u := (.bool (decide (((la.length : Nat) : Int) - n < fr)))) ((rfl : _ = _).trans (cF h9)) rfl (zf (ze (hK3 _ _ (zt rfl (fun h13 => ?_) (fun h13 => ?_))))))))))))
    ·
     exfalso; omega
    ·
     refine wp_skip (ze (hK2 _ _ (yq fun K14 hK14 => (zd (za (zb (yp db) rfl (za (zb (yi fr) rfl (za (zb (yi n) rfl (za (zJ (v := (.agg #[(yp db), (yi fr), (yi n)])) (fun _ => by kernel_rfl) (za (o_box (cs := #[(yp db), (yi fr), (yi n)]) rfl rfl hH11 fun b15 w16 hH17 => (za (zc (yp b15) rfl (zf (ze (hK14 _ _ (wp_ret (zr Tryz.results268  (v := (yp b15)) rfl ?_)))))))))))))))))))))
     exact ⟨_, rfl, hH17⟩
end Go.Q
namespace Go.Q
open Go.Proofs Go.Shelf
set_option maxRecDepth 100000
def trl_ren : Go.Shelf.Ren := ⟨fun | 160 => 189 | 232 => 270 | 231 => 269 | 227 => 271 | 234 => 273 | 233 => 272 | 236 => 275 | 235 => 274 | 228 => 328 | 271 => 331 | 151 => 330 | 197 => 329 | 120 => 367 | 152 => 366 | 260 => 365 | 137 => 392 | 119 => 393 | 224 => 394 | 225 => 395 | 217 => 404 | 266 => 410 | n => n, fun | 9 => 9 | 4 => 4 | 3 => 3 | 5 => 5 | 117 => 363 | 116 => 362 | 0 => 0 | 124 => 366 | 21 => 21 | 105 => 413 | 46 => 65 | 119 => 477 | 139 => 480 | 138 => 479 | n => n, fun | 3 => 2 | 4 => 3 | n => n⟩
theorem trl : Go.Proofs.Lays.n160 Tryz.prog trl_ren := {
 mixed := by kernel_rfl
 f119 := Tryz.func393.trans (congrArg some (by kernel_rfl))
 f120 := Tryz.func367.trans (congrArg some (by kernel_rfl))
 f137 := Tryz.func392.trans (congrArg some (by kernel_rfl))
 f151 := Tryz.func330.trans (congrArg some (by kernel_rfl))
 f152 := Tryz.func366.trans (congrArg some (by kernel_rfl))
 f160 := Tryz.func189.trans (congrArg some (by kernel_rfl))
 f197 := Tryz.func329.trans (congrArg some (by kernel_rfl))
 f217 := Tryz.func404.trans (congrArg some (by kernel_rfl))
 f224 := Tryz.func394.trans (congrArg some (by kernel_rfl))
 f225 := Tryz.func395.trans (congrArg some (by kernel_rfl))
 f227 := Tryz.func271.trans (congrArg some (by kernel_rfl))
 f228 := Tryz.func328.trans (congrArg some (by kernel_rfl))
 f231 := Tryz.func269.trans (congrArg some (by kernel_rfl))
 f232 := Tryz.func270.trans (congrArg some (by kernel_rfl))
 f233 := Tryz.func272.trans (congrArg some (by kernel_rfl))
 f234 := Tryz.func273.trans (congrArg some (by kernel_rfl))
 f235 := Tryz.func274.trans (congrArg some (by kernel_rfl))
 f236 := Tryz.func275.trans (congrArg some (by kernel_rfl))
 f260 := Tryz.func365.trans (congrArg some (by kernel_rfl))
 f266 := Tryz.func410.trans (congrArg some (by kernel_rfl))
 f271 := Tryz.func331.trans (congrArg some (by kernel_rfl))
 t0 := Tryz.underlying0
 a0 := Tryz.isAgg0
 z0 := Tryz.sizeOf0
 v0 := Tryz.zeroValue0
 t3 := Tryz.underlying3
 a3 := Tryz.isAgg3
 z3 := Tryz.sizeOf3
 v3 := Tryz.zeroValue3
 t4 := Tryz.underlying4
 a4 := Tryz.isAgg4
 z4 := Tryz.sizeOf4
 v4 := Tryz.zeroValue4
 t5 := Tryz.underlying5
 a5 := Tryz.isAgg5
 z5 := Tryz.sizeOf5
 v5 := Tryz.zeroValue5
 t9 := Tryz.underlying9
 a9 := Tryz.isAgg9
 z9 := Tryz.sizeOf9
 v9 := Tryz.zeroValue9
 t21 := Tryz.underlying21
 a21 := Tryz.isAgg21
 z21 := Tryz.sizeOf21
 v21 := Tryz.zeroValue21
 t46 := Tryz.underlying65
 a46 := Tryz.isAgg65
 z46 := Tryz.sizeOf65
 v46 := Tryz.zeroValue65
 t105 := Tryz.underlying413
 a105 := Tryz.isAgg413
 z105 := Tryz.sizeOf413
 v105 := Tryz.zeroValue413
 t116 := Tryz.underlying362
 a116 := Tryz.isAgg362
 z116 := Tryz.sizeOf362
 t117 := Tryz.underlying363
 a117 := Tryz.isAgg363
 z117 := Tryz.sizeOf363
 v117 := Tryz.zeroValue363
 t119 := Tryz.underlying477
 a119 := Tryz.isAgg477
 z119 := Tryz.sizeOf477
 t124 := Tryz.underlying366
 a124 := Tryz.isAgg366
 z124 := Tryz.sizeOf366
 v124 := Tryz.zeroValue366
 t138 := Tryz.underlying479
 a138 := Tryz.isAgg479
 z138 := Tryz.sizeOf479
 v138 := Tryz.zeroValue479
 t139 := Tryz.underlying480
 a139 := Tryz.isAgg480
 z139 := Tryz.sizeOf480
 v139 := Tryz.zeroValue480
 g3 := by kernel_rfl
 g4 := by kernel_rfl }
theorem strim_c {E w : World} {R : List Hp} (hH : Has E w [R]) (s : Bs) (hs : s.length ≤ 1000000) : Calls Tryz.prog 189 #[S s, S [0]] w fun e w' => e = .returned (S (Lib.trimB s 0)) ∧ Has E w' [R] := by
 refine (Any.strings_Trim_one trl ⟨s.toArray⟩ 0 (by decide) w (by simp only [ByteArray.size, List.size_toArray]; omega)).mono fun e w' h => ?_
 obtain ⟨h1, h2⟩ := h
 refine ⟨by rw [h1]; rfl, ?_⟩
 rcases h2 with h2 | h2
 · rw [h2]; exact hH
 · rw [h2]; exact Has0.drew hH _
theorem dropZ {s : Bs} : s.dropWhile (· == 0) = [] ↔ ∀ b ∈ s, b = 0 := by
 induction s with
 | nil => simp
 | cons x t ih =>
  rw [List.dropWhile_cons]
  by_cases h : x = 0
  · rw [if_pos (by simpa using h), ih]; simp [h]
  · rw [if_neg (by simpa using h)]; simp [h]
theorem trim_zero {s : Bs} : Lib.trimB s 0 = [] ↔ s = List.replicate s.length 0 := by
 unfold Lib.trimB Lib.trimLeftB Lib.trimRightB
 rw [dropZ, List.eq_replicate_iff]
 constructor
 ·
  intro h
  refine ⟨rfl, ?_⟩
  have h1 : ∀ b ∈ s.reverse.dropWhile (· == 0), b = 0 := fun b hb => h b (List.mem_reverse.2 hb)
  have h2 : s.reverse.dropWhile (· == 0) = [] := by
   cases e : s.reverse.dropWhile (· == 0) with
   | nil => rfl
   | cons x t =>
    have hx := h1 x (by rw [e]; exact List.mem_cons_self ..)
    have hn := List.head?_dropWhile_not (fun b : UInt8 => b == 0) s.reverse
    rw [e] at hn
    simp [hx] at hn
  intro b hb
  exact dropZ.1 h2 b (List.mem_reverse.2 hb)
 ·
  rintro ⟨_, h⟩ b hb
  have := (List.dropWhile_sublist _).subset (List.mem_reverse.1 hb)
  exact h b (List.mem_reverse.1 this)
end Go.Q
namespace Go.Q
open Go.Proofs
set_option linter.unusedVariables false
set_option maxRecDepth 100000
attribute [local irreducible] wpList OK Code.wp
end Go.Q
namespace Go.Q
open Go.Proofs
set_option linter.unusedVariables false
set_option maxRecDepth 100000
attribute [local irreducible] wpList OK Code.wp
theorem sring_ok {E w : World} {R sg : List Hp} {pb db : Nat} {d : Dv} (hH : Has E w [sg, (yP pb d.p), R]) (hd : DevAt pb sg db d.la d.lo) (h4 : d.la.length ≤ 4096) (h3 : 3 ≤ d.la.length) :
  Calls Tryz.prog 185 #[(yp db)] w fun e w' => ∃ ab, e = .returned (.tuple #[.pointer (some ⟨ab, 0, none⟩), .bool true]) ∧ Has E w' [(yo ab #[(yp db), (yi 2), (yi (((d.la.length : Nat) : Int) - 2))] 265), sg, (yP pb d.p), R] := by
 refine zs (args := [(yp db)]) Tryz.func185 rfl Tryz.ntmps185 (by simp) (yq fun K1 hK1 => (zd (za (zc (.pointer none) rfl (za (zc (.bool false) rfl (zf (ze (hK1 _ _ (yq fun K2 hK2 => (zd (za (zb (yp db) rfl (za (zb (yp db) rfl (za (zk (vs := #[(yp db)]) ca85 rfl (zI rfl) (sectors_d (p := d.p) (la := d.la) (lo := d.lo) ((hH.front 1 rfl).front 1 rfl).all2 hd ) ?_)))))))))))))))))
 rintro _ w5 ⟨rfl, hX3⟩
 refine ⟨_, rfl, ?_⟩
 have hH4 := hX3.of_all2
 refine za (o_sub (a := ((d.la.length : Nat) : Int)) (b := 2) rfl rfl (w64 (by omega) (by omega)) (za (zk (vs := #[(yp db), (yi 2), (yi (((d.la.length : Nat) : Int) - 2))]) ca268 rfl (args3 rfl rfl rfl) (anew_c ((hH4.front 1 rfl).front 1 rfl).all2 hd (by omega) (by omega) (by omega) h4) ?_)))
 rintro _ w9 ⟨ab6, rfl, hX7⟩
 refine ⟨_, rfl, ?_⟩
 have hH8 := hX7.of_all3
 refine za (zc (yp ab6) rfl (zf (ze (hK2 _ _ (yq fun K10 hK10 => (zd (za (zb (yp ab6) rfl (za (zb (yp ab6) rfl (za (o_pnnil (p := some _) Tryz.underlying160 rfl rfl (za (zc (yp ab6) rfl (za (zc (.bool true) rfl (zf (ze (hK10 _ _ (wp_ret (ya Tryz.results185  (v := (yp ab6)) rfl (x := (.bool true)) rfl ?_)))))))))))))))))))))
 exact ⟨_, rfl, hH8⟩
theorem sbegin_ok {E w : World} {R sg : List Hp} {pb db : Nat} {d : Dv} (hH : Has E w [sg, (yP pb d.p), R]) (hd : DevAt pb sg db d.la d.lo) (h4 : d.la.length ≤ 4096) (h3 : 3 ≤ d.la.length) (hon : d.p.off = false) :
  Calls Tryz.prog 96 #[(yp db)] w fun e w' => ∃ ab, e = .returned (.tuple #[.pointer (some ⟨ab, 0, none⟩), .int .i64 0]) ∧ Has E w' [(yo ab #[(yp db), (yi 2), (yi (((d.la.length : Nat) : Int) - 2))] 265), sg, (yP pb d.p), R] := by
 refine zs (args := [(yp db)]) Tryz.func96 rfl Tryz.ntmps96 (by simp) (yq fun K1 hK1 => (zd (za (zc (.pointer none) rfl (za (zc (yi 0) rfl (zf (ze (hK1 _ _ (yq fun K2 hK2 => (zd (za (zb (yp db) rfl (za (zk (vs := #[(yp db)]) ca185 rfl (zI rfl) (sring_ok ((hH.front 1 rfl).front 1 rfl).all2 hd h4 h3) ?_)))))))))))))))
 rintro _ w6 ⟨ab3, rfl, hX4⟩
 refine ⟨_, rfl, ?_⟩
 have hH5 := hX4.of_all3
 refine za (zb (.tuple #[(yp ab3), (.bool true)]) rfl (za (zp (v := (yp ab3)) rfl rfl (za (zp (v := (.bool true)) rfl rfl (za (zc (yp ab3) rfl (za (zc (.bool true) rfl (zf (ze (hK2 _ _ (yq fun K7 hK7 => (wp_block (yq fun K8 hK8 => (zd (za (zb (.bool true) rfl (za (o_not rfl (za (zc (.bool false) rfl (zf ?_)))))))))))))))))))))))
 refine ze (hK8 _ _ (zK rfl rfl (yq fun K9 hK9 => (zd (za (zb (yp db) rfl (za (zk (vs := #[(yp db)]) ca186 rfl (zI rfl) (don_d (p := d.p) (la := d.la) (lo := d.lo) ((hH5.front 2 rfl).front 2 rfl).all2 hd ) ?_))))))))
 rintro _ w12 ⟨rfl, hX10⟩
 refine ⟨_, rfl, ?_⟩
 have hH11 := hX10.of_all2
 refine za (o_not rfl (za (zc (.bool (!(!d.p.off))) rfl (zf (ze (hK9 _ _ (z7 rfl (fun h13 => ?_) (fun h13 => ?_))))))))
 ·
  have h13_n : (!d.p.off) = false := by first | simpa using h13 | exact Bool.of_not_eq_true (fun g_ => by rw [g_] at h13; cases h13)
  have h13_n_n : d.p.off = true := by first | simpa using h13_n | exact Bool.of_not_eq_false (fun g_ => by rw [g_] at h13_n; cases h13_n)
  exact absurd h13 (by rw [hon]; decide)
 ·
  have h13_n : (!d.p.off) = true := by first | simpa using h13 | exact Bool.of_not_eq_false (fun g_ => by rw [g_] at h13; cases h13)
  have h13_n_n : d.p.off = false := by first | simpa using h13_n | exact Bool.of_not_eq_true (fun g_ => by rw [g_] at h13_n; cases h13_n)
  refine wp_skip (zC (ze (hK7 _ _ (yq fun K14 hK14 => (zd (za (zb (yp ab3) rfl (za (zc (yp ab3) rfl (za (zc (yi 0) rfl (zf (ze (hK14 _ _ (wp_ret (ya Tryz.results96  (v := (yp ab3)) rfl (x := (yi 0)) rfl ?_))))))))))))))))
  have hH15 := ((((hH11.front 3 rfl).front 2 rfl).front 2 rfl).front 3 rfl).first 4 rfl
  exact ⟨_, rfl, hH15⟩
end Go.Q
namespace Go.Q
open Go.Proofs
set_option linter.unusedVariables false
set_option maxRecDepth 100000
attribute [local irreducible] wpList OK Code.wp
theorem sformat_c {E w : World} {R sg : List Hp} {pb db : Nat} {d : Dv} (hH : Has E w [sg, (yP pb d.p), R]) (hd : DevAt pb sg db d.la d.lo) {k : Nat} (hf : Few d.p k) (hk : k ≤ 390000) (hlk : LoOk d.lo d.la.length) (h4 : d.la.length ≤ 4096) (h3 : 3 ≤ d.la.length) (hon : d.p.off = false) (hg : CellsAt R 0 0 nibV) (hm : (fmS d).1 = 0) :
  Calls Tryz.prog 31 #[(yp db)] w fun e w' => ∃ sb ab sg' ss, e = .returned (.tuple #[.pointer (some ⟨sb, 0, none⟩), .int .i64 0]) ∧ DevAt pb sg' db (fmS d).2.2.la (fmS d).2.2.lo ∧ StmAt db ab sb ss (fmV (fmS d).2.1) ∧ Has E w' [ss, (yo ab #[(yp db), (yi 2), (yi (((d.la.length : Nat) : Int) - 2))] 265), sg', (yP pb ((fmS d).2.2).p), R] := by
 refine zs (args := [(yp db)]) Tryz.func31 rfl Tryz.ntmps31 (by simp) (yq fun K1 hK1 => (zd (za (zc (.pointer none) rfl (za (zc (yi 0) rfl (zf (ze (hK1 _ _ (yq fun K2 hK2 => (zd (za (zb (yp db) rfl (za (zk (vs := #[(yp db)]) ca96 rfl (zI rfl) (sbegin_ok ((hH.front 1 rfl).front 1 rfl).all2 hd h4 h3 hon) ?_)))))))))))))))
 rintro _ w6 ⟨ab3, rfl, hX4⟩
 refine ⟨_, rfl, ?_⟩
 have hH5 := hX4.of_all3
 refine za (zb (.tuple #[(yp ab3), (yi (0 : Int))]) rfl (za (zp (v := (yp ab3)) rfl rfl (za (zp (v := (yi (0 : Int))) rfl rfl (za (zc (yp ab3) rfl (za (zc (yi (0 : Int)) rfl (zf (ze (hK2 _ _ (yq fun K7 hK7 => (yq fun K8 hK8 => (zd (za (zb (yi (0 : Int)) rfl (za (o_neq (a := (0 : Int)) (b := 0) rfl rfl (zf (ze (hK8 _ _ (zt rfl (fun h9 => ?_) (fun h9 => ?_))))))))))))))))))))))))
 ·
  exact absurd h9 (by decide)
 ·
  refine wp_skip (ze (hK7 _ _ (yq fun K10 hK10 => (yq fun K11 hK11 => (zd (za (zb (yp db) rfl (za (zk (vs := #[(yp db)]) ca85 rfl (zI rfl) (sectors_d (p := d.p) (la := d.la) (lo := d.lo) ((hH5.front 2 rfl).front 2 rfl).all2 hd ) ?_)))))))))
  rintro _ w14 ⟨rfl, hX12⟩
  refine ⟨_, rfl, ?_⟩
  have hH13 := hX12.of_all2
  refine za (zb (yi 0) rfl (zf (ze (hK11 _ _ (wp_block ?_)))))
  let I16 : Nat → (Nat → Value) → World → Prop := fun n__ r__ w__ => ∃ (i : Nat) (dc : Dv) (sgc : List Hp), n__ = d.la.length - i ∧ Has E w__ [sgc, (yP pb dc.p), (yo ab3 #[(yp db), (yi 2), (yi (((d.la.length : Nat) : Int) - 2))] 265), R] ∧ (i ≤ d.la.length) ∧ (DevAt pb sgc db dc.la dc.lo) ∧ (Few dc.p (k + i)) ∧ (dc.la.length = d.la.length) ∧ (LoOk dc.lo dc.la.length) ∧ (wrs d (fmtG d.la.length) = wrs dc ((fmtG d.la.length).drop i)) ∧ r__ 0 = (yp db) ∧ r__ 4 = (yp ab3) ∧ r__ 5 = (yi (0 : Int)) ∧ r__ 15 = (.bool (decide ((0 : Int) ≠ 0))) ∧ r__ 18 = (yi ((d.la.length : Nat) : Int)) ∧ r__ 19 = (yi (i : Int))
  refine zX I16 _ ⟨0, d, sg, rfl, hH13, Nat.zero_le _, hd, hf, rfl, hlk, rfl, rfl, rfl, rfl, rfl, rfl, rfl⟩ ?_
  rintro n_ r19 w17 ⟨i, dc, sgc, rfl, hH18, hi, hdc, hfc, hnc, hlc, hst, e15_0, e15_4, e15_5, e15_15, e15_18, e15_19⟩
  refine yq fun K20 hK20 => (zd (za (zL (a := (i : Int)) (b := ((d.la.length : Nat) : Int)) e15_19 e15_18 (zf (ze (hK20 _ _ (yq fun K21 hK21 => (zt rfl (fun h22 => ?_) (fun h22 => ?_)))))))))
  ·
   refine wp_skip (ze (hK21 _ _ (yq fun K23 hK23 => (wp_block (yq fun K24 hK24 => (zd (za (zb (yi (i : Int)) e15_19 (za (zc (yi (i : Int)) rfl (zf (ze (hK24 _ _ (yq fun K25 hK25 => (zd (za (zb (yp db) e15_0 (za (zb (yi (i : Int)) rfl (za (zk (vs := #[(yp db), (yi (i : Int)), (.slice none 0 0)]) ca122 rfl (args3 rfl rfl rfl) (dv_wr (d := dc) ((hH18.front 1 rfl).front 1 rfl).all2 hdc (hfc.ok (by omega)) (by rw [hnc]; exact h4) (i : Int) (l := ([] : List Bs)) (sl_nil 1) (s := ([] : Bs)) rfl (by simp) (by simp)) ?_)))))))))))))))))))))
   rintro _ w30 ⟨sg26, rfl, hd27, hX28⟩
   refine ⟨_, rfl, ?_⟩
   have hH29 := hX28.of_all2
   refine za (zc (yi (dc.wrE (i : Int) ([] : Bs))) rfl (zf (ze (hK25 _ _ (yq fun K31 hK31 => (zd (za (zb (yi (dc.wrE (i : Int) ([] : Bs))) rfl (za (o_neq (a := dc.wrE (i : Int) ([] : Bs)) (b := 0) rfl rfl (zf (ze (hK31 _ _ (zt rfl (fun h32 => ?_) (fun h32 => ?_)))))))))))))))
   ·
    have hr_ := wrs_stop (fmtG_at (by omega)) hst h32
    exact absurd hm (by unfold fmS; rw [hr_, if_pos (show (dc.wrE (i : Int) []) ≠ 0 from h32)]; exact h32)
   ·
    refine wp_skip (zC (ze (hK23 _ _ (zd (za (zD (a := (i : Int)) (b := 1) e15_19 rfl (w64 (by omega) (by omega)) (za (zb (yi ((i : Int) + 1)) rfl (zf (ze ⟨d.la.length - (i + 1), _, rfl, ?_, ?_⟩))))))))))
    · omega
    · exact ⟨(i + 1), (dc.wr (i : Int) ([] : Bs)), sg26, rfl, hH29, (by omega), (hd27), (hfc.use), (hnc), (hlc.write _ _ _), (wrs_go (fmtG_at (by omega)) hst (Classical.not_not.1 h32)), e15_0, e15_4, e15_5, e15_15, e15_18, rfl⟩
  ·
   refine wp_exit (zy (zy (x_in ((ze (hK10 _ _ (yq fun K33 hK33 => (zd (za (zb (yp db) e15_0 (za (zJ (v := (.agg #[(yi 0), (yi 1), (yi 0), (yi 0), (yi 0)])) (fun _ => by kernel_rfl) (za (zk (vs := #[(yp db), (yi 0), (.agg #[(yi 0), (yi 1), (yi 0), (yi 0), (yi 0)])]) ca123 rfl (args3 rfl rfl rfl) (hsv_c (d := dc) ((hH18.front 1 rfl).front 1 rfl).all2 hdc hfc (by omega) hlc (by rw [hnc]; exact h4) (hg.mono (zh 1 rfl)) 0 (h := (Hd.mk 0 1 0 0 0))) ?_))))))))))))))
   rintro _ w38 ⟨sg34, rfl, hd35, hX36⟩
   refine ⟨_, rfl, ?_⟩
   have hH37 := hX36.of_all2
   refine za (zb (.tuple #[(.agg (yH ((svD dc 0 (Hd.mk 0 1 0 0 0)).2.1))), (yi ((svD dc 0 (Hd.mk 0 1 0 0 0)).1))]) rfl (za (zp (v := (.agg (yH ((svD dc 0 (Hd.mk 0 1 0 0 0)).2.1)))) rfl rfl (za (zp (v := (yi ((svD dc 0 (Hd.mk 0 1 0 0 0)).1))) rfl rfl (za (zU (cs := y0A) zY rfl hH37 fun b39 w40 hH41 => (zB (zv (vs := (yL ((svD dc 0 (Hd.mk 0 1 0 0 0)).2.1))) (c' := (yH ((svD dc 0 (Hd.mk 0 1 0 0 0)).2.1))) zY rfl rfl rfl rfl y5 (by simp) (by kernel_rfl) (hH41.front 0 rfl) fun w42 hH43 => (za (zc (yi ((svD dc 0 (Hd.mk 0 1 0 0 0)).1)) rfl (zf (ze (hK33 _ _ (yq fun K44 hK44 => (yq fun K45 hK45 => (zd (za (zb (yi ((svD dc 0 (Hd.mk 0 1 0 0 0)).1)) rfl (za (o_neq (a := (svD dc 0 (Hd.mk 0 1 0 0 0)).1) (b := 0) rfl rfl (zf (ze (hK45 _ _ ?_))))))))))))))))))))))))
   refine zt rfl (fun h46 => ?_) (fun h46 => ?_)
   ·
    have hr_ : wrs d (fmtG d.la.length) = (0, dc) := wrs_last hst (by rw [fmtG_len]; omega)
    have hW_ : (fmS d) = svD dc 0 ⟨0, 1, 0, 0, 0⟩ := by unfold fmS; rw [hr_, if_neg (fun g_ => g_ rfl)]
    exact absurd hm (by rw [hW_]; exact h46)
   ·
    have hr_ : wrs d (fmtG d.la.length) = (0, dc) := wrs_last hst (by rw [fmtG_len]; omega)
    have hW_ : (fmS d) = svD dc 0 ⟨0, 1, 0, 0, 0⟩ := by unfold fmS; rw [hr_, if_neg (fun g_ => g_ rfl)]
    refine wp_skip (ze (hK44 _ _ (yq fun K47 hK47 => (zd (za (zG (cs := (yL ((svD dc 0 (Hd.mk 0 1 0 0 0)).2.1))) Tryz.underlying23 rfl zY rfl hH43 (zh 0 rfl) (CellsAt.one rfl) (za (zJ (v := (.agg (yH ((svD dc 0 (Hd.mk 0 1 0 0 0)).2.1)))) (fun _ => by kernel_rfl) (za (zb (yp db) e15_0 (za (zb (yp ab3) e15_4 (za (zJ (v := (.agg #[(yi ((svD dc 0 (Hd.mk 0 1 0 0 0)).2.1).seq), (yi ((svD dc 0 (Hd.mk 0 1 0 0 0)).2.1).ep), (yi ((svD dc 0 (Hd.mk 0 1 0 0 0)).2.1).cut), (yi ((svD dc 0 (Hd.mk 0 1 0 0 0)).2.1).st), (yi ((svD dc 0 (Hd.mk 0 1 0 0 0)).2.1).mrk), (yp db), (yp ab3), (.slice none 0 0), (yi 0), (yi 0), (yi 0), (.bool true), (yi 0)])) (fun _ => by kernel_rfl) (za (o_box (cs := #[(yi ((svD dc 0 (Hd.mk 0 1 0 0 0)).2.1).seq), (yi ((svD dc 0 (Hd.mk 0 1 0 0 0)).2.1).ep), (yi ((svD dc 0 (Hd.mk 0 1 0 0 0)).2.1).cut), (yi ((svD dc 0 (Hd.mk 0 1 0 0 0)).2.1).st), (yi ((svD dc 0 (Hd.mk 0 1 0 0 0)).2.1).mrk), (yp db), (yp ab3), (.slice none 0 0), (yi 0), (yi 0), (yi 0), (.bool true), (yi 0)]) rfl rfl hH43 fun b48 w49 hH50 => (za (zc (yp b48) rfl (za (zc (yi 0) rfl (zf (ze (hK47 _ _ (wp_ret ?_))))))))))))))))))))))))
    refine ya Tryz.results31  (v := (yp b48)) rfl (x := (yi 0)) rfl ?_
    have hH51 := Has.nil hH50
    have hH52 := Has.cl2 (hH51.front 1 rfl)
    have hd53 : StmAt db ab3 b48 ((yo b48 #[(yi ((svD dc 0 (Hd.mk 0 1 0 0 0)).2.1).seq), (yi ((svD dc 0 (Hd.mk 0 1 0 0 0)).2.1).ep), (yi ((svD dc 0 (Hd.mk 0 1 0 0 0)).2.1).cut), (yi ((svD dc 0 (Hd.mk 0 1 0 0 0)).2.1).st), (yi ((svD dc 0 (Hd.mk 0 1 0 0 0)).2.1).mrk), (yp db), (yp ab3), (.slice none 0 0), (yi 0), (yi 0), (yi 0), (.bool true), (yi 0)] 175) ++ []) (⟨((svD dc 0 (Hd.mk 0 1 0 0 0)).2.1).seq, ((svD dc 0 (Hd.mk 0 1 0 0 0)).2.1).ep, ((svD dc 0 (Hd.mk 0 1 0 0 0)).2.1).cut, ((svD dc 0 (Hd.mk 0 1 0 0 0)).2.1).st, ((svD dc 0 (Hd.mk 0 1 0 0 0)).2.1).mrk, ([] : List LEnt), 0, 0, 0, true, 0⟩ : StmS) := StmAt.mk (v := (⟨((svD dc 0 (Hd.mk 0 1 0 0 0)).2.1).seq, ((svD dc 0 (Hd.mk 0 1 0 0 0)).2.1).ep, ((svD dc 0 (Hd.mk 0 1 0 0 0)).2.1).cut, ((svD dc 0 (Hd.mk 0 1 0 0 0)).2.1).st, ((svD dc 0 (Hd.mk 0 1 0 0 0)).2.1).mrk, ([] : List LEnt), 0, 0, 0, true, 0⟩ : StmS)) (OwnL.nil 42 3)
    have hH54 := (((((hH52.front 5 rfl).front 4 rfl).front 4 rfl).front 5 rfl).front 4 rfl).first 5 rfl
    exact ⟨_, _, _, _, rfl, by rw [hW_]; exact hd35, by rw [hW_]; exact hd53, by rw [hW_]; exact hH54⟩
end Go.Q
namespace Go.Q
open Go.Proofs
set_option linter.unusedVariables false
set_option maxRecDepth 100000
attribute [local irreducible] wpList OK Code.wp
theorem dget_c {E w : World} {R sg : List Hp} {pb db ab : Nat} {d : Dv} {fr n : Int} (hH : Has E w [sg, (yP pb d.p), (yo ab #[(yp db), (yi fr), (yi n)] 265), R]) (hd : DevAt pb sg db d.la d.lo) (h4 : d.la.length ≤ 4096) (h64 : Full64 d.la) (hlk : LoOk d.lo d.la.length) (hfr : 0 ≤ fr) (hn : 1 ≤ n) (hfn : fr + n ≤ d.la.length) (hon : d.p.off = false) {at_ : Int} (hat : 0 ≤ at_ ∧ at_ ≤ 4611686018427387904) {size : Int} (hsz : 0 ≤ size ∧ size ≤ n * 64) :
  Calls Tryz.prog 98 #[(yp ab), (yi at_), (yi size)] w fun e w' => e = .returned (.tuple #[S (getP d.la d.lo (allP fr (n * 64) (at_ % (n * 64)) size)), .int .i64 0]) ∧ Has E w' [sg, (yP pb d.p), (yo ab #[(yp db), (yi fr), (yi n)] 265), R] := by
 obtain ⟨hat1, hat2⟩ := hat
 obtain ⟨hsz1, hsz2⟩ := hsz
 refine zs (args := [(yp ab), (yi at_), (yi size)]) Tryz.func98 rfl Tryz.ntmps98 (by simp) (yq fun K1 hK1 => (zd (za (zc (S ([] : List UInt8)) rfl (za (zc (yi 0) rfl (zf (ze (hK1 _ _ (yq fun K2 hK2 => (yq fun K3 hK3 => (zd (za (zb (yp ab) rfl (za (zb (yi at_) rfl (za (zb (yi size) rfl (za (zk (vs := #[(yp ab), (yi at_), (yi size)]) ca191 rfl (args3 rfl rfl rfl) (amay_c (hH.front 2 rfl).all1 ⟨by omega, by omega⟩ at_ size) ?_))))))))))))))))))))
 rintro _ w6 ⟨rfl, hX4⟩
 refine ⟨_, rfl, ?_⟩
 have hH5 : Has E w6 [(yo ab #[(yp db), (yi fr), (yi n)] 265), sg, (yP pb d.p), R] := hX4.of_all1
 refine za (o_not2 (b := decide (0 ≤ at_ ∧ at_ ≤ 4611686018427387904 ∧ 0 ≤ size ∧ size ≤ n * 64)) (b' := decide (¬ (0 ≤ at_ ∧ at_ ≤ 4611686018427387904 ∧ 0 ≤ size ∧ size ≤ n * 64))) rfl not_dec (zf (ze (hK3 _ _ (zt rfl (fun h7 => ?_) (fun h7 => ?_))))))
 ·
  exact absurd (show _ ∧ _ ∧ _ ∧ _ from ⟨by omega, by omega, by omega, by omega⟩) h7
 ·
  refine wp_skip (ze (hK2 _ _ (yq fun K8 hK8 => (yq fun K9 hK9 => (zd (za (zb (yp ab) rfl (za (zl rfl (za (zg (k := 0) (fun _ => by kernel_rfl) rfl (za (zj (v := (yp db)) Tryz.underlying25 rfl rfl hH5 (zh 0 rfl) (CellsAt.one rfl) (za (zk (vs := #[(yp db)]) ca186 rfl (zI rfl) (don_d (p := d.p) (la := d.la) (lo := d.lo) ((hH5.front 2 rfl).front 2 rfl).all2 hd ) ?_)))))))))))))))
  rintro _ w12 ⟨rfl, hX10⟩
  refine ⟨_, rfl, ?_⟩
  have hH11 := hX10.of_all2
  refine za (o_not rfl (zf (ze (hK9 _ _ (z7 rfl (fun h13 => ?_) (fun h13 => ?_))))))
  ·
   have h13_n : (!d.p.off) = false := by first | simpa using h13 | exact Bool.of_not_eq_true (fun g_ => by rw [g_] at h13; cases h13)
   have h13_n_n : d.p.off = true := by first | simpa using h13_n | exact Bool.of_not_eq_false (fun g_ => by rw [g_] at h13_n; cases h13_n)
   exact absurd h13 (by rw [hon]; decide)
  ·
   have h13_n : (!d.p.off) = true := by first | simpa using h13 | exact Bool.of_not_eq_false (fun g_ => by rw [g_] at h13; cases h13)
   have h13_n_n : d.p.off = false := by first | simpa using h13_n | exact Bool.of_not_eq_true (fun g_ => by rw [g_] at h13_n; cases h13_n)
   refine wp_skip (ze (hK8 _ _ (yq fun K14 hK14 => (zd (za (zU (cs := #[(.pointer none), (.slice none 0 0)]) ti249 rfl hH11 fun b15 w16 hH17 => (zf (ze (hK14 _ _ (yq fun K18 hK18 => (yq fun K19 hK19 => (zd (za (zb (yp ab) rfl (za (zb (yi at_) rfl (za (zb (yi size) rfl (za (zk (vs := #[(yp ab), (yi at_), (yi size)]) ca192 rfl (args3 rfl rfl rfl) (pieces_c (hH17.front 3 rfl).all1 ⟨by omega, by omega⟩ ⟨by omega, by omega⟩ (at_ := at_) (size := size) ⟨by omega, by omega⟩ ⟨by omega, by omega⟩) ?_))))))))))))))))))))
   rintro _ w25 ⟨v20, s21, rfl, ho22, hX23⟩
   refine ⟨_, rfl, ?_⟩
   have hH24 := hX23.of_all2
   refine za (zQ Tryz.underlying266 rfl ho22.sl (za (zb (yi 0) rfl (zf (ze (hK19 _ _ (wp_block ?_)))))))
   have hpl := pieces_count (fr := fr) (L := n * 64) size.toNat (at_ % (n * 64)) size
   have hpk := pieces_ok (fr := fr) (n := n) (by omega) size.toNat (at_ % (n * 64)) size (Int.emod_nonneg _ (by omega)) (Int.emod_lt_of_pos _ (by omega))
   have hpe : (allP fr (n * 64) (at_ % (n * 64)) size).length ≤ size.toNat := hpl
   let I27 : Nat → (Nat → Value) → World → Prop := fun n__ r__ w__ => ∃ (j : Nat) (sgB : List Hp) (acc : Bs), n__ = (allP fr (n * 64) (at_ % (n * 64)) size).length - j ∧ Has E w__ [sgB, s21, (yo ab #[(yp db), (yi fr), (yi n)] 265), sg, (yP pb d.p), R] ∧ (j ≤ (allP fr (n * 64) (at_ % (n * 64)) size).length) ∧ (Bld b15 acc sgB) ∧ (acc.length ≤ j * 64) ∧ (acc = getP d.la d.lo ((allP fr (n * 64) (at_ % (n * 64)) size).take j)) ∧ r__ 0 = (yp ab) ∧ r__ 1 = (yi at_) ∧ r__ 2 = (yi size) ∧ r__ 8 = (yp b15) ∧ r__ 17 = (.bool (decide (¬ (0 ≤ at_ ∧ at_ ≤ 4611686018427387904 ∧ 0 ≤ size ∧ size ≤ n * 64)))) ∧ r__ 23 = (.bool (!(!d.p.off))) ∧ r__ 27 = v20 ∧ r__ 28 = (yi (((allP fr (n * 64) (at_ % (n * 64)) size).length : Nat) : Int)) ∧ r__ 29 = (yi (j : Int))
   have hH28 : Has E w25 [(yo b15 #[(.pointer none), (.slice none 0 0)] 249), s21, (yo ab #[(yp db), (yi fr), (yi n)] 265), sg, (yP pb d.p), R] := Has.pick hH24 [2, 0, 0, 0, 0, 0] (by kernel_rfl)
   refine zX I27 _ ⟨0, (yo b15 #[(.pointer none), (.slice none 0 0)] 249), ([] : Bs), rfl, hH28, Nat.zero_le _, Bld.new _, (by simp), (by rfl), rfl, rfl, rfl, rfl, rfl, rfl, rfl, rfl, rfl⟩ ?_
   rintro n_ r31 w29 ⟨j, sgB, acc, rfl, hH30, hj, hB, hal, hacc, e26_0, e26_1, e26_2, e26_8, e26_17, e26_23, e26_27, e26_28, e26_29⟩
   refine yq fun K32 hK32 => (zd (za (zL (a := (j : Int)) (b := (((allP fr (n * 64) (at_ % (n * 64)) size).length : Nat) : Int)) e26_29 e26_28 (zf (ze (hK32 _ _ (yq fun K33 hK33 => (zt rfl (fun h34 => ?_) (fun h34 => ?_)))))))))
   ·
    refine wp_skip (ze (hK33 _ _ (yq fun K35 hK35 => (wp_block (yq fun K36 hK36 => (zd ?_))))))
    obtain ⟨x40, hx41⟩ : ∃ x_, (allP fr (n * 64) (at_ % (n * 64)) size)[((j : Int)).toNat]? = some x_ := zN (by omega)
    refine za (o_indexF pcC_len Tryz.underlying266 ti269 e26_27 ho22.sl rfl e26_29 (by omega) hx41 fun b37 o38 hc39 => (za (zG (cs := [(yi x40.sec), (yi x40.frm), (yi x40.upto)]) Tryz.underlying269 rfl ti269 rfl hH30 (zh 1 rfl) hc39 (za (zU (cs := #[(yi 0), (yi 0), (yi 0)]) ti269 rfl hH30 fun b42 w43 hH44 => (zB (zv (vs := [(yi x40.sec), (yi x40.frm), (yi x40.upto)]) (c' := #[(yi x40.sec), (yi x40.frm), (yi x40.upto)]) ti269 rfl rfl rfl rfl (by intro u hu; simp only [List.mem_cons, List.not_mem_nil, or_false] at hu; rcases hu with rfl | rfl | rfl <;> first | rfl) (by simp) (by kernel_rfl) (hH44.front 0 rfl) fun w45 hH46 => (zf (ze (hK36 _ _ (yq fun K47 hK47 => (Rest.region mixed (by kernel_rfl) ?_))))))))))))
    have hH48 : Has E { w45 with drawn := w45.drawn + 1 } [(yo b42 #[(yi x40.sec), (yi x40.frm), (yi x40.upto)] 269), sgB, s21, (yo ab #[(yp db), (yi fr), (yi n)] 265), sg, (yP pb d.p), R] := Has0.drew hH46 _
    refine Rest.phaseA (fun w_ => Has E w_ [(yo b42 #[(yi x40.sec), (yi x40.frm), (yi x40.upto)] 269), (yo ab #[(yp db), (yi fr), (yi n)] 265)]) 0 6 6 rfl (by decide) (by kernel_rfl) (zn 0 rfl (by kernel_rfl) (fun w_ h_ => zb (yp ab) e26_0 ⟨rfl, rfl⟩) (zn 1 rfl (by kernel_rfl) (fun w_ h_ => zl rfl ⟨rfl, rfl⟩) (zn 2 rfl (by kernel_rfl) (fun w_ h_ => zg (k := 0) (fun _ => by kernel_rfl) rfl ⟨rfl, rfl⟩) (zn 3 rfl (by kernel_rfl) (fun w_ h_ => zj (v := (yp db)) Tryz.underlying25 rfl rfl h_ (zh 1 rfl) (CellsAt.one rfl) ⟨rfl, rfl⟩) (zn 4 rfl (by kernel_rfl) (fun w_ h_ => zg (k := 0) (fun _ => by kernel_rfl) rfl ⟨rfl, rfl⟩) (zn 5 rfl (by kernel_rfl) (fun w_ h_ => zj (v := (yi x40.sec)) Tryz.underlying3 rfl rfl h_ (zh 0 rfl) (CellsAt.one rfl) ⟨rfl, rfl⟩) ?_))))))
    have hH49 := ((hH48.front 3 rfl).front 1 rfl).first 2 rfl
    refine zM (by kernel_rfl) hH49 (zO 6 rfl (by kernel_rfl) (zk (vs := #[(yp db), (yi x40.sec)]) ca188 rfl (zF rfl rfl) (read_d (p := d.p) (la := d.la) (lo := d.lo) ((hH48.front 5 rfl).front 5 rfl).all2 hd x40.sec) ?_))
    rintro _ w52 ⟨rfl, hX50⟩
    refine ⟨_, rfl, ?_⟩
    have hH51 : Has E w52 [sg, (yP pb d.p), (yo b42 #[(yi x40.sec), (yi x40.frm), (yi x40.upto)] 269), sgB, s21, (yo ab #[(yp db), (yi fr), (yi n)] 265), R] := hX50.of_all2
    refine zO 7 rfl (by kernel_rfl) (zb (.tuple #[(S (readS d.p d.la d.lo x40.sec)), (yi (readE d.p d.la x40.sec))]) rfl (Rest.phaseA (fun w_ => Has E w_ []) 8 11 3 rfl (by decide) (by kernel_rfl) (zn 8 rfl (by kernel_rfl) (fun w_ h_ => zp (v := (S (readS d.p d.la d.lo x40.sec))) rfl rfl ⟨rfl, rfl⟩) (zn 9 rfl (by kernel_rfl) (fun w_ h_ => zp (v := (yi (readE d.p d.la x40.sec))) rfl rfl ⟨rfl, rfl⟩) (zn 10 rfl (by kernel_rfl) (fun w_ h_ => zc (S (readS d.p d.la d.lo x40.sec)) rfl ⟨rfl, rfl⟩) ?_)))))
    have hH53 := hH51.first 0 rfl
    refine zM (by kernel_rfl) hH53 (zO 11 rfl (by kernel_rfl) (zc (yi (readE d.p d.la x40.sec)) rfl (Rest.done (by kernel_rfl) (ze (hK47 _ _ (yq fun K54 hK54 => (yq fun K55 hK55 => (zd (za (zb (yi (readE d.p d.la x40.sec)) rfl (za (o_neq (a := readE d.p d.la x40.sec) (b := 0) rfl rfl (zf (ze (hK55 _ _ (zt rfl (fun h56 => ?_) (fun h56 => ?_)))))))))))))))))
    ·
     obtain ⟨hq1, hq2, hq3, hq4, hq5⟩ := hpk x40 (List.mem_of_getElem? hx41)
     have hrd_ := rd_on hon (la := d.la) (lo := d.lo) (n := x40.sec) ⟨by omega, by omega⟩
     exact absurd hrd_.2 h56
    ·
     obtain ⟨hq1, hq2, hq3, hq4, hq5⟩ := hpk x40 (List.mem_of_getElem? hx41)
     have hrd_ := rd_on hon (la := d.la) (lo := d.lo) (n := x40.sec) ⟨by omega, by omega⟩
     have hrl_ : (readS d.p d.la d.lo x40.sec).length = 64 := by rw [hrd_.1]; exact nowAt_len h64 hlk (by omega)
     refine wp_skip (ze (hK54 _ _ (zd (za (zb (S (readS d.p d.la d.lo x40.sec)) rfl (za (zg (k := 1) (fun _ => by kernel_rfl) rfl (za (zj (v := (yi x40.frm)) Tryz.underlying3 rfl rfl hH51 (zh 2 rfl) (CellsAt.one rfl) (za (zg (k := 2) (fun _ => by kernel_rfl) rfl (za (zj (v := (yi x40.upto)) Tryz.underlying3 rfl rfl hH51 (zh 2 rfl) (CellsAt.one rfl) (za (o_ssl Tryz.underlying9 rfl rfl rfl (by omega) (by omega) (by omega) (za (zk (vs := #[(yp b15), (S (((readS d.p d.la d.lo x40.sec).take (x40.upto).toNat).drop (x40.frm).toNat))]) ca179 rfl (zF e26_8 rfl) (bws (hH51.front 3 rfl).all1 hB (((readS d.p d.la d.lo x40.sec).take (x40.upto).toNat).drop (x40.frm).toNat) (by simp only [List.length_drop, List.length_take]; omega)) ?_)))))))))))))))))
     rintro _ w61 ⟨sg57, rfl, hB58, hX59⟩
     refine ⟨_, rfl, ?_⟩
     have hH60 := hX59.of_all1
     refine zf (zC (ze (hK35 _ _ (zd (za (zD (a := (j : Int)) (b := 1) e26_29 rfl (w64 (by omega) (by omega)) (za (zb (yi ((j : Int) + 1)) rfl (zf ?_)))))))))
     have hH62 : Has E w61 [sg57, s21, (yo ab #[(yp db), (yi fr), (yi n)] 265), sg, (yP pb d.p), R] := Has.pick hH60 [0, 3, 3, 0, 0, 1] (by kernel_rfl)
     refine ze ⟨(allP fr (n * 64) (at_ % (n * 64)) size).length - (j + 1), _, rfl, ?_, ?_⟩
     · omega
     · exact ⟨(j + 1), sg57, (acc ++ (((readS d.p d.la d.lo x40.sec).take (x40.upto).toNat).drop (x40.frm).toNat)), rfl, hH62, (by omega), (hB58), (by simp only [List.length_append, List.length_drop, List.length_take]; omega), (by rw [zS (show (allP fr (n * 64) (at_ % (n * 64)) size)[j]? = some _ from hx41), getP_snoc, ← hacc, hrd_.1]; rfl), e26_0, e26_1, e26_2, e26_8, e26_17, e26_23, e26_27, e26_28, rfl⟩
   ·
    refine wp_exit (zy (zy (x_in ((ze (hK18 _ _ (yq fun K63 hK63 => (zd (za (zk (vs := #[(yp b15)]) ca181 rfl (zI e26_8) (bstr hH30.all1 hB) ?_))))))))))
    rintro _ w66 ⟨rfl, hX64⟩
    refine ⟨_, rfl, ?_⟩
    have hH65 := hX64.of_all
    refine za (zc (S acc) rfl (za (zc (yi 0) rfl (zf (ze (hK63 _ _ (wp_ret (ya Tryz.results98  (v := (S acc)) rfl (x := (yi 0)) rfl ?_))))))))
    have hH67 := ((((hH65.front 4 rfl).front 2 rfl).front 4 rfl).front 4 rfl).first 4 rfl
    have e_ : j = (allP fr (n * 64) (at_ % (n * 64)) size).length := by omega
    rw [e_, List.take_of_length_le (Nat.le_refl _)] at hacc
    exact ⟨by rw [← hacc], hH67⟩
end Go.Q
namespace Go.Q
open Go.Proofs
set_option linter.unusedVariables false
set_option maxRecDepth 100000
attribute [local irreducible] wpList OK Code.wp
theorem blG_step {la : List Bs} {x : Int} {i : Nat} {bl : Bool} {rd : Bs} (h : blG la x i = bl) (hs : rd = sec la (x + (i : Int))) (hl : rd.length = 64) : blG la x (i + 1) = (bl && decide (Lib.trimB rd 0 = [])) := by
 show (blG la x i && blankB (sec la (x + (i : Int)))) = _
 rw [h, ← hs]
 congr 1
 unfold blankB
 rw [decide_eq_decide, trim_zero, hl]
theorem hload_c {E w : World} {R sg : List Hp} {pb db : Nat} {p : Pw} {la : List Bs} (hH : Has E w [sg, (yP pb p), R]) (hd : DevAt pb sg db la []) (hg : CellsAt R 0 0 nibV) (h64 : Full64 la) (hla : la.length ≤ 4096) (x : Int) :
  Calls Tryz.prog 97 #[(yp db), (yi x)] w fun e w' => e = .returned (.tuple #[.agg (yH (ldH p la x)), .int .i64 (ldE p la x)]) ∧ Has E w' [sg, (yP pb p), R] := by
 refine zs (args := [(yp db), (yi x)]) Tryz.func97 rfl Tryz.ntmps97 (by simp) (yq fun K1 hK1 => (zd (za (zU (cs := y0A) zY rfl hH fun b2 w3 hH4 => (za (zc (yi 0) rfl (zf (ze (hK1 _ _ (yq fun K5 hK5 => (yq fun K6 hK6 => (zd (za (zb (yp db) rfl (za (zb (yi x) rfl (za (zk (vs := #[(yp db), (yi x)]) ca187 rfl (zF rfl rfl) (there_c ((hH4.front 2 rfl).front 2 rfl).all2 hd x) ?_))))))))))))))))))
 rintro _ w9 ⟨rfl, hX7⟩
 refine ⟨_, rfl, ?_⟩
 have hH8 : Has E w9 [sg, (yP pb p), (yo b2 y0A 23), R] := hX7.of_all2
 refine za (zc (yi (thE p la.length x)) rfl (zf (ze (hK6 _ _ (yq fun K10 hK10 => (zd (za (zb (yi (thE p la.length x)) rfl (za (o_neq (a := thE p la.length x) (b := 0) rfl rfl (zf (ze (hK10 _ _ (zt rfl (fun h11 => ?_) (fun h11 => ?_)))))))))))))))
 ·
  refine yq fun K12 hK12 => (zd (za (zJ (v := (.agg y0A)) (fun _ => by kernel_rfl) (za (zb (yi (thE p la.length x)) rfl (zB (zv (vs := y0L) (c' := y0A) zY rfl rfl rfl rfl y5 (by simp) (by kernel_rfl) (hH8.front 2 rfl) fun w13 hH14 => (za (zc (yi (thE p la.length x)) rfl (zf (ze (hK12 _ _ (wp_ret (zx (zR Tryz.results97 rfl (zu (cs := y0L) Tryz.underlying23 rfl zY hH14 (zh 0 rfl) (CellsAt.one rfl)) (x := (yi (thE p la.length x))) rfl ?_)))))))))))))))
  have hH15 := (((hH14.front 3 rfl).front 3 rfl).front 3 rfl).first 3 rfl
  obtain ⟨e1_, e2_⟩ := ld_th h11
  exact ⟨by rw [e1_, e2_]; rfl, hH15⟩
 ·
  have hth_ := thE_zero (Classical.not_not.1 h11)
  obtain ⟨hx1_, hx2_⟩ := hth_.1
  refine wp_skip (ze (hK5 _ _ (yq fun K16 hK16 => (zd (za (zU (cs := y0A) zY rfl hH8 fun b17 w18 hH19 => (zf (ze (hK16 _ _ (yq fun K20 hK20 => (zd (za (zc (.bool false) rfl (za (zc (.bool true) rfl (zf (ze (hK20 _ _ (yq fun K21 hK21 => (yq fun K22 hK22 => ?_))))))))))))))))))))
  refine zd (za (zb (yi 0) rfl (zf (ze (hK22 _ _ (wp_block ?_))))))
  have hH23 := hH19
  let I25 : Nat → (Nat → Value) → World → Prop := fun n__ r__ w__ => ∃ (i : Nat) (bh : Hd) (fd : Bool) (bl : Bool), n__ = 2 - i ∧ Has E w__ [[Hp.one b17 (.cells (yH bh) 23 (0, 0))], sg, (yP pb p), (yo b2 y0A 23), R] ∧ (i ≤ 2) ∧ (ldG la x i = (bh, fd)) ∧ (blG la x i = bl) ∧ r__ 0 = (yp db) ∧ r__ 1 = (yi x) ∧ r__ 4 = (yp b2) ∧ r__ 6 = (yi (thE p la.length x)) ∧ r__ 7 = (yp b17) ∧ r__ 8 = (.bool fd) ∧ r__ 9 = (.bool bl) ∧ r__ 19 = (.bool (decide (thE p la.length x ≠ 0))) ∧ r__ 22 = (yi (i : Int))
  refine zX I25 _ ⟨0, hdZ, false, true, rfl, hH23, (by omega), rfl, rfl, rfl, rfl, rfl, rfl, rfl, rfl, rfl, rfl, rfl⟩ ?_
  rintro n_ r28 w26 ⟨i, bh, fd, bl, rfl, hH27, hi, hld, hbl, e24_0, e24_1, e24_4, e24_6, e24_7, e24_8, e24_9, e24_19, e24_22⟩
  have hsi_ : i < 2 → inS (x + (i : Int)) la.length := fun h_ => ⟨by omega, by omega⟩
  refine yq fun K29 hK29 => (zd (za (zL (a := (i : Int)) (b := 2) e24_22 rfl (zf (ze (hK29 _ _ (yq fun K30 hK30 => (zt rfl (fun h31 => ?_) (fun h31 => ?_)))))))))
  ·
   refine wp_skip (ze (hK30 _ _ (yq fun K32 hK32 => (wp_block (yq fun K33 hK33 => (zd (za (zb (yi (i : Int)) e24_22 (za (zc (yi (i : Int)) rfl (zf (ze (hK33 _ _ (yq fun K34 hK34 => (zd (za (zb (yp db) e24_0 (za (zb (yi x) e24_1 (za (zb (yi (i : Int)) rfl ?_)))))))))))))))))))))
   refine za (zD (a := x) (b := (i : Int)) rfl rfl (w64 (by omega) (by omega)) (za (zk (vs := #[(yp db), (yi (x + (i : Int)))]) ca188 rfl (zF rfl rfl) (read_d (p := p) (la := la) (lo := ([] : List (Int × Bs))) ((hH27.front 2 rfl).front 2 rfl).all2 hd (x + (i : Int))) ?_)))
   rintro _ w37 ⟨rfl, hX35⟩
   refine ⟨_, rfl, ?_⟩
   have hH36 : Has E w37 [sg, (yP pb p), [Hp.one b17 (.cells (yH bh) 23 (0, 0))], (yo b2 y0A 23), R] := hX35.of_all2
   refine za (zb (.tuple #[(S (readS p la ([] : List (Int × Bs)) (x + (i : Int)))), (yi (readE p la (x + (i : Int))))]) rfl (za (zp (v := (S (readS p la ([] : List (Int × Bs)) (x + (i : Int))))) rfl rfl (za (zp (v := (yi (readE p la (x + (i : Int))))) rfl rfl (za (zc (S (readS p la ([] : List (Int × Bs)) (x + (i : Int)))) rfl (za (zc (yi (readE p la (x + (i : Int)))) rfl (zf (ze (hK34 _ _ (yq fun K38 hK38 => (yq fun K39 hK39 => (zd (za (zb (yi (readE p la (x + (i : Int)))) rfl (za (o_neq (a := readE p la (x + (i : Int))) (b := 0) rfl rfl (zf (ze (hK39 _ _ (zt rfl (fun h40 => ?_) (fun h40 => ?_))))))))))))))))))))))))
   ·
    obtain ⟨hsec_, hre_⟩ := read_sec (p := p) (la := la) (n := x + (i : Int)) hth_.2 (hsi_ (by omega))
    have hsl_ : (readS p la [] (x + (i : Int))).length = 64 := by rw [hsec_]; exact sec_len h64 (hsi_ (by omega))
    exact absurd hre_ h40
   ·
    obtain ⟨hsec_, hre_⟩ := read_sec (p := p) (la := la) (n := x + (i : Int)) hth_.2 (hsi_ (by omega))
    have hsl_ : (readS p la [] (x + (i : Int))).length = 64 := by rw [hsec_]; exact sec_len h64 (hsi_ (by omega))
    refine wp_skip (ze (hK38 _ _ (yq fun K41 hK41 => (zd (za (zb (.bool bl) e24_9 (za (zb (.bool bl) rfl ?_))))))))
    rcases Bool.eq_false_or_eq_true bl with h42 | h42
    ·
     refine zo 38 rfl (congrArg Value.bool h42) (zb (S (readS p la ([] : List (Int × Bs)) (x + (i : Int)))) rfl (zo 38 rfl (congrArg Value.bool h42) (zk (vs := #[(S (readS p la ([] : List (Int × Bs)) (x + (i : Int)))), (S [0])]) ca189 rfl (zF rfl rfl) (strim_c hH36.all (readS p la ([] : List (Int × Bs)) (x + (i : Int))) (by omega)) ?_)))
     rintro _ w45 ⟨rfl, hX43⟩
     refine ⟨_, rfl, ?_⟩
     have hH44 := hX43.of_all
     refine zo 38 rfl (congrArg Value.bool h42) (o_seql (a := (Lib.trimB (readS p la ([] : List (Int × Bs)) (x + (i : Int))) 0)) (b := ([] : List UInt8)) rfl rfl (za (zq (u := (.bool (decide ((Lib.trimB (readS p la ([] : List (Int × Bs)) (x + (i : Int))) 0) = ([] : List UInt8))))) ((rfl : _ = _).trans (congrArg Value.bool h42)) rfl (za (zc (.bool (decide ((Lib.trimB (readS p la ([] : List (Int × Bs)) (x + (i : Int))) 0) = ([] : List UInt8)))) rfl (zf (ze (hK41 _ _ (yq fun K46 hK46 => (zd (za (zb (S (readS p la ([] : List (Int × Bs)) (x + (i : Int)))) rfl (za (zk (vs := #[(S (readS p la ([] : List (Int × Bs)) (x + (i : Int))))]) ca190 rfl (zI rfl) (hread_c (s := (readS p la ([] : List (Int × Bs)) (x + (i : Int)))) hH44.all (hg.mono (zh 4 rfl)) (by first | omega | (simp only []; omega) | (simp; done) | (simp; omega))) ?_))))))))))))))
     rintro _ w49 ⟨rfl, hX47⟩
     refine ⟨_, rfl, ?_⟩
     have hH48 := hX47.of_all
     have hnn_ := hdP_nn (readS p la ([] : List (Int × Bs)) (x + (i : Int)))
     refine za (zb (.tuple #[(.agg (yH ((hdP (readS p la ([] : List (Int × Bs)) (x + (i : Int)))).1))), (.bool ((hdP (readS p la ([] : List (Int × Bs)) (x + (i : Int)))).2))]) rfl (za (zp (v := (.agg (yH ((hdP (readS p la ([] : List (Int × Bs)) (x + (i : Int)))).1)))) rfl rfl (za (zp (v := (.bool ((hdP (readS p la ([] : List (Int × Bs)) (x + (i : Int)))).2))) rfl rfl (za (zU (cs := y0A) zY rfl hH48 fun b50 w51 hH52 => (zB (zv (vs := (yL ((hdP (readS p la ([] : List (Int × Bs)) (x + (i : Int)))).1))) (c' := (yH ((hdP (readS p la ([] : List (Int × Bs)) (x + (i : Int)))).1))) zY rfl rfl rfl rfl y5 (by simp) (by kernel_rfl) (hH52.front 0 rfl) fun w53 hH54 => (za (zc (.bool ((hdP (readS p la ([] : List (Int × Bs)) (x + (i : Int)))).2)) rfl (zf (ze (hK46 _ _ (yq fun K55 hK55 => (zd (za (zb (.bool ((hdP (readS p la ([] : List (Int × Bs)) (x + (i : Int)))).2)) rfl (za (zb (.bool ((hdP (readS p la ([] : List (Int × Bs)) (x + (i : Int)))).2)) rfl ?_))))))))))))))))))))
     rcases Bool.eq_false_or_eq_true ((hdP (readS p la ([] : List (Int × Bs)) (x + (i : Int)))).2) with h56 | h56
     ·
      refine zo 49 rfl (congrArg Value.bool h56) (zg (k := 0) (fun _ => by kernel_rfl) rfl (zo 49 rfl (congrArg Value.bool h56) (zj (v := (yi ((hdP (readS p la ([] : List (Int × Bs)) (x + (i : Int)))).1).seq)) Tryz.underlying3 rfl rfl hH54 (zh 0 rfl) (CellsAt.one rfl) (zo 49 rfl (congrArg Value.bool h56) (o_rem (a := ((hdP (readS p la ([] : List (Int × Bs)) (x + (i : Int)))).1).seq) (b := 2) (c := (((hdP (readS p la ([] : List (Int × Bs)) (x + (i : Int)))).1).seq) % 2) rfl rfl (by omega) ((Int.tmod_eq_emod_of_nonneg (by first | exact Int.natCast_nonneg _ | omega))) (zo 49 rfl (congrArg Value.bool h56) (zb (yi (i : Int)) rfl (zo 49 rfl (congrArg Value.bool h56) (yc (a := (((hdP (readS p la ([] : List (Int × Bs)) (x + (i : Int)))).1).seq) % 2) (b := (i : Int)) rfl rfl (za (zq (u := (.bool (decide ((((hdP (readS p la ([] : List (Int × Bs)) (x + (i : Int)))).1).seq) % 2 = (i : Int))))) ((rfl : _ = _).trans (congrArg Value.bool h56)) rfl (za (zb (.bool (decide ((((hdP (readS p la ([] : List (Int × Bs)) (x + (i : Int)))).1).seq) % 2 = (i : Int)))) rfl ?_)))))))))))))
      by_cases h57 : (((hdP (readS p la ([] : List (Int × Bs)) (x + (i : Int)))).1).seq) % 2 = (i : Int)
      ·
       refine zo 56 rfl (cT h57) (zb (.bool fd) e24_8 (zo 56 rfl (cT h57) (o_not rfl (zo 56 rfl (cT h57) (zb (.bool (!fd)) rfl ?_)))))
       rcases Bool.eq_false_or_eq_true (!fd) with h58 | h58
       ·
        have h58_n : fd = false := by first | simpa using h58 | exact Bool.of_not_eq_true (fun g_ => by rw [g_] at h58; cases h58)
        refine zi (b' := true) 59 rfl (congrArg Value.bool h58) rfl (zi (b' := true) 59 rfl (congrArg Value.bool h58) rfl (zi (b' := true) 59 rfl (congrArg Value.bool h58) rfl (zi (b' := true) 59 rfl (congrArg Value.bool h58) rfl (zi (b' := true) 59 rfl (congrArg Value.bool h58) rfl (zo 56 rfl (cT h57) (zq (u := (.bool true)) ((rfl : _ = _).trans (congrArg Value.bool h58)) rfl (za (zq (u := (.bool true)) ((rfl : _ = _).trans (cT h57)) rfl (zf (ze (hK55 _ _ (zP rfl rfl (zd (za (zG (cs := (yL ((hdP (readS p la ([] : List (Int × Bs)) (x + (i : Int)))).1))) Tryz.underlying23 rfl zY rfl hH54 (zh 0 rfl) (CellsAt.one rfl) (zB (zv (vs := (yL ((hdP (readS p la ([] : List (Int × Bs)) (x + (i : Int)))).1))) (c' := (yH ((hdP (readS p la ([] : List (Int × Bs)) (x + (i : Int)))).1))) zY e24_7 rfl rfl rfl y5 (by simp) (by kernel_rfl) (hH54.front 3 rfl) fun w59 hH60 => (za (zc (.bool true) rfl (zf ?_))))))))))))))))))))
        refine zC (ze (hK32 _ _ (zd (za (zD (a := (i : Int)) (b := 1) e24_22 rfl (w64 (by omega) (by omega)) (za (zb (yi ((i : Int) + 1)) rfl (zf ?_))))))))
        have hH61 := (((((hH60.front 5 rfl).front 5 rfl).front 5 rfl).front 5 rfl).front 4 rfl).first 5 rfl
        refine ze ⟨2 - (i + 1), _, rfl, ?_, ?_⟩
        · omega
        · exact ⟨(i + 1), ((hdP (readS p la ([] : List (Int × Bs)) (x + (i : Int)))).1), true, (decide ((Lib.trimB (readS p la ([] : List (Int × Bs)) (x + (i : Int))) 0) = ([] : List UInt8))), rfl, hH61, (by omega), (ldG_yes hld hsec_ (by first | (simpa using h11) | (simpa using h31) | (simpa using h40) | (simpa using h42) | (simpa using h56) | (simpa using h57) | (simpa using h58) | (simpa using h58_n)) (by first | exact h11 | exact h31 | exact h40 | exact h42 | exact h56 | exact h57 | exact h58 | exact h58_n) (by first | exact .inr (by omega) | exact .inl (by simpa using h11) | exact .inl (by simpa using h31) | exact .inl (by simpa using h40) | exact .inl (by simpa using h42) | exact .inl (by simpa using h56) | exact .inl (by simpa using h57) | exact .inl (by simpa using h58) | exact .inl (by simpa using h58_n))), ((blG_step hbl hsec_ hsl_).trans (by first | rfl | (rw [h42]; rfl) | simp [h42])), e24_0, e24_1, e24_4, e24_6, e24_7, rfl, rfl, e24_19, rfl⟩
       ·
        have h58_n : fd = true := by first | simpa using h58 | exact Bool.of_not_eq_false (fun g_ => by rw [g_] at h58; cases h58)
        refine zo 59 rfl (congrArg Value.bool h58) (zg (k := 0) (fun _ => by kernel_rfl) rfl (zo 59 rfl (congrArg Value.bool h58) (zj (v := (yi ((hdP (readS p la ([] : List (Int × Bs)) (x + (i : Int)))).1).seq)) Tryz.underlying3 rfl rfl hH54 (zh 0 rfl) (CellsAt.one rfl) (zo 59 rfl (congrArg Value.bool h58) (zg (k := 0) (fun _ => by kernel_rfl) e24_7 (zo 59 rfl (congrArg Value.bool h58) (zj (v := (yi bh.seq)) Tryz.underlying3 rfl rfl hH54 (zh 3 rfl) (CellsAt.one rfl) (zo 59 rfl (congrArg Value.bool h58) (o_gtr (a := ((hdP (readS p la ([] : List (Int × Bs)) (x + (i : Int)))).1).seq) (b := bh.seq) rfl rfl (zo 56 rfl (cT h57) (zm (u := (.bool (decide (bh.seq < ((hdP (readS p la ([] : List (Int × Bs)) (x + (i : Int)))).1).seq)))) ((rfl : _ = _).trans (congrArg Value.bool h58)) rfl (za (zq (u := (.bool (decide (bh.seq < ((hdP (readS p la ([] : List (Int × Bs)) (x + (i : Int)))).1).seq)))) ((rfl : _ = _).trans (cT h57)) rfl (zf (ze (hK55 _ _ (zt rfl (fun h62 => ?_) (fun h62 => ?_))))))))))))))))))
        ·
         refine zd (za (zG (cs := (yL ((hdP (readS p la ([] : List (Int × Bs)) (x + (i : Int)))).1))) Tryz.underlying23 rfl zY rfl hH54 (zh 0 rfl) (CellsAt.one rfl) (zB (zv (vs := (yL ((hdP (readS p la ([] : List (Int × Bs)) (x + (i : Int)))).1))) (c' := (yH ((hdP (readS p la ([] : List (Int × Bs)) (x + (i : Int)))).1))) zY e24_7 rfl rfl rfl y5 (by simp) (by kernel_rfl) (hH54.front 3 rfl) fun w63 hH64 => (za (zc (.bool true) rfl (zf (zC (ze (hK32 _ _ (zd (za (zD (a := (i : Int)) (b := 1) e24_22 rfl (w64 (by omega) (by omega)) (za (zb (yi ((i : Int) + 1)) rfl (zf ?_))))))))))))))))
         have hH65 := (((((hH64.front 5 rfl).front 5 rfl).front 5 rfl).front 5 rfl).front 4 rfl).first 5 rfl
         refine ze ⟨2 - (i + 1), _, rfl, ?_, ?_⟩
         · omega
         · exact ⟨(i + 1), ((hdP (readS p la ([] : List (Int × Bs)) (x + (i : Int)))).1), true, (decide ((Lib.trimB (readS p la ([] : List (Int × Bs)) (x + (i : Int))) 0) = ([] : List UInt8))), rfl, hH65, (by omega), (ldG_yes hld hsec_ (by first | (simpa using h11) | (simpa using h31) | (simpa using h40) | (simpa using h42) | (simpa using h56) | (simpa using h57) | (simpa using h58) | (simpa using h58_n) | (simpa using h62)) (by first | exact h11 | exact h31 | exact h40 | exact h42 | exact h56 | exact h57 | exact h58 | exact h58_n | exact h62) (by first | exact .inr (by omega) | exact .inl (by simpa using h11) | exact .inl (by simpa using h31) | exact .inl (by simpa using h40) | exact .inl (by simpa using h42) | exact .inl (by simpa using h56) | exact .inl (by simpa using h57) | exact .inl (by simpa using h58) | exact .inl (by simpa using h58_n) | exact .inl (by simpa using h62))), ((blG_step hbl hsec_ hsl_).trans (by first | rfl | (rw [h42]; rfl) | simp [h42])), e24_0, e24_1, e24_4, e24_6, e24_7, rfl, rfl, e24_19, rfl⟩
        ·
         refine wp_skip (zC (ze (hK32 _ _ (zd (za (zD (a := (i : Int)) (b := 1) e24_22 rfl (w64 (by omega) (by omega)) (za (zb (yi ((i : Int) + 1)) rfl (zf ?_)))))))))
         have hH66 := (((((hH54.front 5 rfl).front 5 rfl).front 4 rfl).front 4 rfl).front 5 rfl).first 5 rfl
         refine ze ⟨2 - (i + 1), _, rfl, ?_, ?_⟩
         · omega
         · exact ⟨(i + 1), bh, fd, (decide ((Lib.trimB (readS p la ([] : List (Int × Bs)) (x + (i : Int))) 0) = ([] : List UInt8))), rfl, hH66, (by omega), (ldG_no hld hsec_ (.inr (.inr ⟨by first | (simpa using h11) | (simpa using h31) | (simpa using h40) | (simpa using h42) | (simpa using h56) | (simpa using h57) | (simpa using h58) | (simpa using h58_n) | (simpa using h62), by omega⟩))), ((blG_step hbl hsec_ hsl_).trans (by first | rfl | (rw [h42]; rfl) | simp [h42])), e24_0, e24_1, e24_4, e24_6, e24_7, e24_8, rfl, e24_19, rfl⟩
      ·
       refine zi (b' := false) 56 rfl (cF h57) rfl (zi (b' := false) 56 rfl (cF h57) rfl (zi (b' := false) 56 rfl (cF h57) rfl (zE 59 rfl rfl (zE 59 rfl rfl (zE 59 rfl rfl (zE 59 rfl rfl (zE 59 rfl rfl (zi (b' := false) 56 rfl (cF h57) rfl (za (zm (u := (.bool false)) ((rfl : _ = _).trans (cF h57)) rfl (zf (ze (hK55 _ _ (zK rfl rfl (wp_skip (zC ?_))))))))))))))))
       refine ze (hK32 _ _ (zd (za (zD (a := (i : Int)) (b := 1) e24_22 rfl (w64 (by omega) (by omega)) (za (zb (yi ((i : Int) + 1)) rfl (zf ?_)))))))
       have hH67 := (((((hH54.front 5 rfl).front 5 rfl).front 4 rfl).front 4 rfl).front 5 rfl).first 5 rfl
       refine ze ⟨2 - (i + 1), _, rfl, ?_, ?_⟩
       · omega
       · exact ⟨(i + 1), bh, fd, (decide ((Lib.trimB (readS p la ([] : List (Int × Bs)) (x + (i : Int))) 0) = ([] : List UInt8))), rfl, hH67, (by omega), (ldG_no hld hsec_ (by first | exact .inl (by simpa using h11) | exact .inr (.inl h11) | exact .inl (by simpa using h31) | exact .inr (.inl h31) | exact .inl (by simpa using h40) | exact .inr (.inl h40) | exact .inl (by simpa using h42) | exact .inr (.inl h42) | exact .inl (by simpa using h56) | exact .inr (.inl h56) | exact .inl (by simpa using h57) | exact .inr (.inl h57))), ((blG_step hbl hsec_ hsl_).trans (by first | rfl | (rw [h42]; rfl) | simp [h42])), e24_0, e24_1, e24_4, e24_6, e24_7, e24_8, rfl, e24_19, rfl⟩
     ·
      refine zi (b' := false) 49 rfl (congrArg Value.bool h56) rfl (zi (b' := false) 49 rfl (congrArg Value.bool h56) rfl (zi (b' := false) 49 rfl (congrArg Value.bool h56) rfl (zi (b' := false) 49 rfl (congrArg Value.bool h56) rfl (zi (b' := false) 49 rfl (congrArg Value.bool h56) rfl (za (zm (u := (.bool false)) ((rfl : _ = _).trans (congrArg Value.bool h56)) rfl (za (zb (.bool false) rfl (zi (b' := false) 56 rfl rfl rfl (zi (b' := false) 56 rfl rfl rfl (zi (b' := false) 56 rfl rfl rfl (zE 59 rfl rfl (zE 59 rfl rfl (zE 59 rfl rfl (zE 59 rfl rfl (zE 59 rfl rfl ?_))))))))))))))))
      refine zi (b' := false) 56 rfl rfl rfl (za (zm (u := (.bool false)) rfl rfl (zf (ze (hK55 _ _ (zK rfl rfl (wp_skip (zC (ze (hK32 _ _ (zd (za (zD (a := (i : Int)) (b := 1) e24_22 rfl (w64 (by omega) (by omega)) (za (zb (yi ((i : Int) + 1)) rfl (zf ?_))))))))))))))))
      have hH68 := (((((hH54.front 5 rfl).front 5 rfl).front 4 rfl).front 4 rfl).front 5 rfl).first 5 rfl
      refine ze ⟨2 - (i + 1), _, rfl, ?_, ?_⟩
      · omega
      · exact ⟨(i + 1), bh, fd, (decide ((Lib.trimB (readS p la ([] : List (Int × Bs)) (x + (i : Int))) 0) = ([] : List UInt8))), rfl, hH68, (by omega), (ldG_no hld hsec_ (by first | exact .inl (by simpa using h11) | exact .inr (.inl h11) | exact .inl (by simpa using h31) | exact .inr (.inl h31) | exact .inl (by simpa using h40) | exact .inr (.inl h40) | exact .inl (by simpa using h42) | exact .inr (.inl h42) | exact .inl (by simpa using h56) | exact .inr (.inl h56))), ((blG_step hbl hsec_ hsl_).trans (by first | rfl | (rw [h42]; rfl) | simp [h42])), e24_0, e24_1, e24_4, e24_6, e24_7, e24_8, rfl, e24_19, rfl⟩
    ·
     refine zi (b' := false) 38 rfl (congrArg Value.bool h42) rfl (zi (b' := false) 38 rfl (congrArg Value.bool h42) rfl (zi (b' := false) 38 rfl (congrArg Value.bool h42) rfl (za (zm (u := (.bool false)) ((rfl : _ = _).trans (congrArg Value.bool h42)) rfl (za (zc (.bool false) rfl (zf (ze (hK41 _ _ (yq fun K69 hK69 => (zd (za (zb (S (readS p la ([] : List (Int × Bs)) (x + (i : Int)))) rfl (za (zk (vs := #[(S (readS p la ([] : List (Int × Bs)) (x + (i : Int))))]) ca190 rfl (zI rfl) (hread_c (s := (readS p la ([] : List (Int × Bs)) (x + (i : Int)))) hH36.all (hg.mono (zh 4 rfl)) (by first | omega | (simp only []; omega) | (simp; done) | (simp; omega))) ?_)))))))))))))))
     rintro _ w72 ⟨rfl, hX70⟩
     refine ⟨_, rfl, ?_⟩
     have hH71 := hX70.of_all
     have hnn_ := hdP_nn (readS p la ([] : List (Int × Bs)) (x + (i : Int)))
     refine za (zb (.tuple #[(.agg (yH ((hdP (readS p la ([] : List (Int × Bs)) (x + (i : Int)))).1))), (.bool ((hdP (readS p la ([] : List (Int × Bs)) (x + (i : Int)))).2))]) rfl (za (zp (v := (.agg (yH ((hdP (readS p la ([] : List (Int × Bs)) (x + (i : Int)))).1)))) rfl rfl (za (zp (v := (.bool ((hdP (readS p la ([] : List (Int × Bs)) (x + (i : Int)))).2))) rfl rfl (za (zU (cs := y0A) zY rfl hH71 fun b73 w74 hH75 => (zB (zv (vs := (yL ((hdP (readS p la ([] : List (Int × Bs)) (x + (i : Int)))).1))) (c' := (yH ((hdP (readS p la ([] : List (Int × Bs)) (x + (i : Int)))).1))) zY rfl rfl rfl rfl y5 (by simp) (by kernel_rfl) (hH75.front 0 rfl) fun w76 hH77 => (za (zc (.bool ((hdP (readS p la ([] : List (Int × Bs)) (x + (i : Int)))).2)) rfl (zf (ze (hK69 _ _ (yq fun K78 hK78 => (zd (za (zb (.bool ((hdP (readS p la ([] : List (Int × Bs)) (x + (i : Int)))).2)) rfl (za (zb (.bool ((hdP (readS p la ([] : List (Int × Bs)) (x + (i : Int)))).2)) rfl ?_))))))))))))))))))))
     rcases Bool.eq_false_or_eq_true ((hdP (readS p la ([] : List (Int × Bs)) (x + (i : Int)))).2) with h79 | h79
     ·
      refine zo 49 rfl (congrArg Value.bool h79) (zg (k := 0) (fun _ => by kernel_rfl) rfl (zo 49 rfl (congrArg Value.bool h79) (zj (v := (yi ((hdP (readS p la ([] : List (Int × Bs)) (x + (i : Int)))).1).seq)) Tryz.underlying3 rfl rfl hH77 (zh 0 rfl) (CellsAt.one rfl) (zo 49 rfl (congrArg Value.bool h79) (o_rem (a := ((hdP (readS p la ([] : List (Int × Bs)) (x + (i : Int)))).1).seq) (b := 2) (c := (((hdP (readS p la ([] : List (Int × Bs)) (x + (i : Int)))).1).seq) % 2) rfl rfl (by omega) ((Int.tmod_eq_emod_of_nonneg (by first | exact Int.natCast_nonneg _ | omega))) (zo 49 rfl (congrArg Value.bool h79) (zb (yi (i : Int)) rfl (zo 49 rfl (congrArg Value.bool h79) (yc (a := (((hdP (readS p la ([] : List (Int × Bs)) (x + (i : Int)))).1).seq) % 2) (b := (i : Int)) rfl rfl (za (zq (u := (.bool (decide ((((hdP (readS p la ([] : List (Int × Bs)) (x + (i : Int)))).1).seq) % 2 = (i : Int))))) ((rfl : _ = _).trans (congrArg Value.bool h79)) rfl (za (zb (.bool (decide ((((hdP (readS p la ([] : List (Int × Bs)) (x + (i : Int)))).1).seq) % 2 = (i : Int)))) rfl ?_)))))))))))))
      by_cases h80 : (((hdP (readS p la ([] : List (Int × Bs)) (x + (i : Int)))).1).seq) % 2 = (i : Int)
      ·
       refine zo 56 rfl (cT h80) (zb (.bool fd) e24_8 (zo 56 rfl (cT h80) (o_not rfl (zo 56 rfl (cT h80) (zb (.bool (!fd)) rfl ?_)))))
       rcases Bool.eq_false_or_eq_true (!fd) with h81 | h81
       ·
        have h81_n : fd = false := by first | simpa using h81 | exact Bool.of_not_eq_true (fun g_ => by rw [g_] at h81; cases h81)
        refine zi (b' := true) 59 rfl (congrArg Value.bool h81) rfl (zi (b' := true) 59 rfl (congrArg Value.bool h81) rfl (zi (b' := true) 59 rfl (congrArg Value.bool h81) rfl (zi (b' := true) 59 rfl (congrArg Value.bool h81) rfl (zi (b' := true) 59 rfl (congrArg Value.bool h81) rfl (zo 56 rfl (cT h80) (zq (u := (.bool true)) ((rfl : _ = _).trans (congrArg Value.bool h81)) rfl (za (zq (u := (.bool true)) ((rfl : _ = _).trans (cT h80)) rfl (zf (ze (hK78 _ _ (zP rfl rfl (zd (za (zG (cs := (yL ((hdP (readS p la ([] : List (Int × Bs)) (x + (i : Int)))).1))) Tryz.underlying23 rfl zY rfl hH77 (zh 0 rfl) (CellsAt.one rfl) (zB (zv (vs := (yL ((hdP (readS p la ([] : List (Int × Bs)) (x + (i : Int)))).1))) (c' := (yH ((hdP (readS p la ([] : List (Int × Bs)) (x + (i : Int)))).1))) zY e24_7 rfl rfl rfl y5 (by simp) (by kernel_rfl) (hH77.front 3 rfl) fun w82 hH83 => (za (zc (.bool true) rfl (zf ?_))))))))))))))))))))
        refine zC (ze (hK32 _ _ (zd (za (zD (a := (i : Int)) (b := 1) e24_22 rfl (w64 (by omega) (by omega)) (za (zb (yi ((i : Int) + 1)) rfl (zf ?_))))))))
        have hH84 := (((((hH83.front 5 rfl).front 5 rfl).front 5 rfl).front 5 rfl).front 4 rfl).first 5 rfl
        refine ze ⟨2 - (i + 1), _, rfl, ?_, ?_⟩
        · omega
        · exact ⟨(i + 1), ((hdP (readS p la ([] : List (Int × Bs)) (x + (i : Int)))).1), true, false, rfl, hH84, (by omega), (ldG_yes hld hsec_ (by first | (simpa using h11) | (simpa using h31) | (simpa using h40) | (simpa using h42) | (simpa using h79) | (simpa using h80) | (simpa using h81) | (simpa using h81_n)) (by first | exact h11 | exact h31 | exact h40 | exact h42 | exact h79 | exact h80 | exact h81 | exact h81_n) (by first | exact .inr (by omega) | exact .inl (by simpa using h11) | exact .inl (by simpa using h31) | exact .inl (by simpa using h40) | exact .inl (by simpa using h42) | exact .inl (by simpa using h79) | exact .inl (by simpa using h80) | exact .inl (by simpa using h81) | exact .inl (by simpa using h81_n))), ((blG_step hbl hsec_ hsl_).trans (by first | rfl | (rw [h42]; rfl) | simp [h42])), e24_0, e24_1, e24_4, e24_6, e24_7, rfl, rfl, e24_19, rfl⟩
       ·
        have h81_n : fd = true := by first | simpa using h81 | exact Bool.of_not_eq_false (fun g_ => by rw [g_] at h81; cases h81)
        refine zo 59 rfl (congrArg Value.bool h81) (zg (k := 0) (fun _ => by kernel_rfl) rfl (zo 59 rfl (congrArg Value.bool h81) (zj (v := (yi ((hdP (readS p la ([] : List (Int × Bs)) (x + (i : Int)))).1).seq)) Tryz.underlying3 rfl rfl hH77 (zh 0 rfl) (CellsAt.one rfl) (zo 59 rfl (congrArg Value.bool h81) (zg (k := 0) (fun _ => by kernel_rfl) e24_7 (zo 59 rfl (congrArg Value.bool h81) (zj (v := (yi bh.seq)) Tryz.underlying3 rfl rfl hH77 (zh 3 rfl) (CellsAt.one rfl) (zo 59 rfl (congrArg Value.bool h81) (o_gtr (a := ((hdP (readS p la ([] : List (Int × Bs)) (x + (i : Int)))).1).seq) (b := bh.seq) rfl rfl (zo 56 rfl (cT h80) (zm (u := (.bool (decide (bh.seq < ((hdP (readS p la ([] : List (Int × Bs)) (x + (i : Int)))).1).seq)))) ((rfl : _ = _).trans (congrArg Value.bool h81)) rfl (za (zq (u := (.bool (decide (bh.seq < ((hdP (readS p la ([] : List (Int × Bs)) (x + (i : Int)))).1).seq)))) ((rfl : _ = _).trans (cT h80)) rfl (zf (ze (hK78 _ _ (zt rfl (fun h85 => ?_) (fun h85 => ?_))))))))))))))))))
        ·
         refine zd (za (zG (cs := (yL ((hdP (readS p la ([] : List (Int × Bs)) (x + (i : Int)))).1))) Tryz.underlying23 rfl zY rfl hH77 (zh 0 rfl) (CellsAt.one rfl) (zB (zv (vs := (yL ((hdP (readS p la ([] : List (Int × Bs)) (x + (i : Int)))).1))) (c' := (yH ((hdP (readS p la ([] : List (Int × Bs)) (x + (i : Int)))).1))) zY e24_7 rfl rfl rfl y5 (by simp) (by kernel_rfl) (hH77.front 3 rfl) fun w86 hH87 => (za (zc (.bool true) rfl (zf (zC (ze (hK32 _ _ (zd (za (zD (a := (i : Int)) (b := 1) e24_22 rfl (w64 (by omega) (by omega)) (za (zb (yi ((i : Int) + 1)) rfl (zf ?_))))))))))))))))
         have hH88 := (((((hH87.front 5 rfl).front 5 rfl).front 5 rfl).front 5 rfl).front 4 rfl).first 5 rfl
         refine ze ⟨2 - (i + 1), _, rfl, ?_, ?_⟩
         · omega
         · exact ⟨(i + 1), ((hdP (readS p la ([] : List (Int × Bs)) (x + (i : Int)))).1), true, false, rfl, hH88, (by omega), (ldG_yes hld hsec_ (by first | (simpa using h11) | (simpa using h31) | (simpa using h40) | (simpa using h42) | (simpa using h79) | (simpa using h80) | (simpa using h81) | (simpa using h81_n) | (simpa using h85)) (by first | exact h11 | exact h31 | exact h40 | exact h42 | exact h79 | exact h80 | exact h81 | exact h81_n | exact h85) (by first | exact .inr (by omega) | exact .inl (by simpa using h11) | exact .inl (by simpa using h31) | exact .inl (by simpa using h40) | exact .inl (by simpa using h42) | exact .inl (by simpa using h79) | exact .inl (by simpa using h80) | exact .inl (by simpa using h81) | exact .inl (by simpa using h81_n) | exact .inl (by simpa using h85))), ((blG_step hbl hsec_ hsl_).trans (by first | rfl | (rw [h42]; rfl) | simp [h42])), e24_0, e24_1, e24_4, e24_6, e24_7, rfl, rfl, e24_19, rfl⟩
        ·
         refine wp_skip (zC (ze (hK32 _ _ (zd (za (zD (a := (i : Int)) (b := 1) e24_22 rfl (w64 (by omega) (by omega)) (za (zb (yi ((i : Int) + 1)) rfl (zf ?_)))))))))
         have hH89 := (((((hH77.front 5 rfl).front 5 rfl).front 4 rfl).front 4 rfl).front 5 rfl).first 5 rfl
         refine ze ⟨2 - (i + 1), _, rfl, ?_, ?_⟩
         · omega
         · exact ⟨(i + 1), bh, fd, false, rfl, hH89, (by omega), (ldG_no hld hsec_ (.inr (.inr ⟨by first | (simpa using h11) | (simpa using h31) | (simpa using h40) | (simpa using h42) | (simpa using h79) | (simpa using h80) | (simpa using h81) | (simpa using h81_n) | (simpa using h85), by omega⟩))), ((blG_step hbl hsec_ hsl_).trans (by first | rfl | (rw [h42]; rfl) | simp [h42])), e24_0, e24_1, e24_4, e24_6, e24_7, e24_8, rfl, e24_19, rfl⟩
      ·
       refine zi (b' := false) 56 rfl (cF h80) rfl (zi (b' := false) 56 rfl (cF h80) rfl (zi (b' := false) 56 rfl (cF h80) rfl (zE 59 rfl rfl (zE 59 rfl rfl (zE 59 rfl rfl (zE 59 rfl rfl (zE 59 rfl rfl (zi (b' := false) 56 rfl (cF h80) rfl (za (zm (u := (.bool false)) ((rfl : _ = _).trans (cF h80)) rfl (zf (ze (hK78 _ _ (zK rfl rfl (wp_skip (zC ?_))))))))))))))))
       refine ze (hK32 _ _ (zd (za (zD (a := (i : Int)) (b := 1) e24_22 rfl (w64 (by omega) (by omega)) (za (zb (yi ((i : Int) + 1)) rfl (zf ?_)))))))
       have hH90 := (((((hH77.front 5 rfl).front 5 rfl).front 4 rfl).front 4 rfl).front 5 rfl).first 5 rfl
       refine ze ⟨2 - (i + 1), _, rfl, ?_, ?_⟩
       · omega
       · exact ⟨(i + 1), bh, fd, false, rfl, hH90, (by omega), (ldG_no hld hsec_ (by first | exact .inl (by simpa using h11) | exact .inr (.inl h11) | exact .inl (by simpa using h31) | exact .inr (.inl h31) | exact .inl (by simpa using h40) | exact .inr (.inl h40) | exact .inl (by simpa using h42) | exact .inr (.inl h42) | exact .inl (by simpa using h79) | exact .inr (.inl h79) | exact .inl (by simpa using h80) | exact .inr (.inl h80))), ((blG_step hbl hsec_ hsl_).trans (by first | rfl | (rw [h42]; rfl) | simp [h42])), e24_0, e24_1, e24_4, e24_6, e24_7, e24_8, rfl, e24_19, rfl⟩
     ·
      refine zi (b' := false) 49 rfl (congrArg Value.bool h79) rfl (zi (b' := false) 49 rfl (congrArg Value.bool h79) rfl (zi (b' := false) 49 rfl (congrArg Value.bool h79) rfl (zi (b' := false) 49 rfl (congrArg Value.bool h79) rfl (zi (b' := false) 49 rfl (congrArg Value.bool h79) rfl (za (zm (u := (.bool false)) ((rfl : _ = _).trans (congrArg Value.bool h79)) rfl (za (zb (.bool false) rfl (zi (b' := false) 56 rfl rfl rfl (zi (b' := false) 56 rfl rfl rfl (zi (b' := false) 56 rfl rfl rfl (zE 59 rfl rfl (zE 59 rfl rfl (zE 59 rfl rfl (zE 59 rfl rfl (zE 59 rfl rfl ?_))))))))))))))))
      refine zi (b' := false) 56 rfl rfl rfl (za (zm (u := (.bool false)) rfl rfl (zf (ze (hK78 _ _ (zK rfl rfl (wp_skip (zC (ze (hK32 _ _ (zd (za (zD (a := (i : Int)) (b := 1) e24_22 rfl (w64 (by omega) (by omega)) (za (zb (yi ((i : Int) + 1)) rfl (zf ?_))))))))))))))))
      have hH91 := (((((hH77.front 5 rfl).front 5 rfl).front 4 rfl).front 4 rfl).front 5 rfl).first 5 rfl
      refine ze ⟨2 - (i + 1), _, rfl, ?_, ?_⟩
      · omega
      · exact ⟨(i + 1), bh, fd, false, rfl, hH91, (by omega), (ldG_no hld hsec_ (by first | exact .inl (by simpa using h11) | exact .inr (.inl h11) | exact .inl (by simpa using h31) | exact .inr (.inl h31) | exact .inl (by simpa using h40) | exact .inr (.inl h40) | exact .inl (by simpa using h42) | exact .inr (.inl h42) | exact .inl (by simpa using h79) | exact .inr (.inl h79))), ((blG_step hbl hsec_ hsl_).trans (by first | rfl | (rw [h42]; rfl) | simp [h42])), e24_0, e24_1, e24_4, e24_6, e24_7, e24_8, rfl, e24_19, rfl⟩
  ·
   refine wp_exit (zy (zy (x_in ((ze (hK21 _ _ (yq fun K92 hK92 => (wp_block (yq fun K93 hK93 => (zd (za (zb (.bool fd) e24_8 (za (zc (.bool fd) rfl (zf (ze (hK93 _ _ (z7 rfl (fun h94 => ?_) (fun h94 => ?_)))))))))))))))))))
   ·
    refine yq fun K95 hK95 => (zd (za (zG (cs := (yL bh)) Tryz.underlying23 rfl zY e24_7 hH27 (zh 0 rfl) (CellsAt.one rfl) (zB (zv (vs := (yL bh)) (c' := (yH bh)) zY e24_4 rfl rfl rfl y5 (by simp) (by kernel_rfl) (hH27.front 3 rfl) fun w96 hH97 => (za (zc (yi 0) rfl (zf (ze (hK95 _ _ (wp_ret (zZ (zx (zR Tryz.results97 e24_4 (zu (cs := (yL bh)) Tryz.underlying23 rfl zY hH97 (zh 0 rfl) (CellsAt.one rfl)) (x := (yi 0)) rfl ?_))))))))))))))
    have hH98 := (((hH97.front 4 rfl).front 4 rfl).front 4 rfl).first 3 rfl
    have ei_ : i = 2 := by omega
    subst ei_
    obtain ⟨e1_, e2_⟩ := ld_two hth_.1 hth_.2
    rw [hld] at e1_ e2_
    rw [hbl] at e2_
    exact ⟨by rw [e1_, e2_]; simp only [h94]; rfl, hH98⟩
   ·
    refine yq fun K99 hK99 => (zd (za (zb (.bool bl) e24_9 (za (zc (.bool bl) rfl (zf (ze (hK99 _ _ (z7 rfl (fun h100 => ?_) (fun h100 => ?_))))))))))
    ·
     refine yq fun K101 hK101 => (zd (za (zJ (v := (.agg y0A)) (fun _ => by kernel_rfl) (zB (zv (vs := y0L) (c' := y0A) zY e24_4 rfl rfl rfl y5 (by simp) (by kernel_rfl) (hH27.front 3 rfl) fun w102 hH103 => (za (zc (yi 7) rfl (zf (ze (hK101 _ _ (wp_ret (zZ (zx (zR Tryz.results97 e24_4 (zu (cs := y0L) Tryz.underlying23 rfl zY hH103 (zh 0 rfl) (CellsAt.one rfl)) (x := (yi 7)) rfl ?_))))))))))))))
     have hH104 := (((hH103.front 4 rfl).front 4 rfl).front 4 rfl).first 3 rfl
     have ei_ : i = 2 := by omega
     subst ei_
     obtain ⟨e1_, e2_⟩ := ld_two hth_.1 hth_.2
     rw [hld] at e1_ e2_
     rw [hbl] at e2_
     exact ⟨by rw [e1_, e2_]; simp only [h94, h100]; rfl, hH104⟩
    ·
     refine wp_skip (zC (ze (hK92 _ _ (yq fun K105 hK105 => (zd (za (zJ (v := (.agg y0A)) (fun _ => by kernel_rfl) (zB (zv (vs := y0L) (c' := y0A) zY e24_4 rfl rfl rfl y5 (by simp) (by kernel_rfl) (hH27.front 3 rfl) fun w106 hH107 => (za (zc (yi 9) rfl (zf (ze (hK105 _ _ (wp_ret (zR Tryz.results97 e24_4 (zu (cs := y0L) Tryz.underlying23 rfl zY hH107 (zh 0 rfl) (CellsAt.one rfl)) (x := (yi 9)) rfl ?_))))))))))))))))
     have hH108 := (((hH107.front 4 rfl).front 4 rfl).front 4 rfl).first 3 rfl
     have ei_ : i = 2 := by omega
     subst ei_
     obtain ⟨e1_, e2_⟩ := ld_two hth_.1 hth_.2
     rw [hld] at e1_ e2_
     rw [hbl] at e2_
     exact ⟨by rw [e1_, e2_]; simp only [h94, h100]; rfl, hH108⟩
end Go.Q
namespace Go.Q
open Go.Proofs
set_option linter.unusedVariables false
set_option maxRecDepth 100000
attribute [local irreducible] wpList OK Code.wp
theorem sopen_any {E w : World} {R sg : List Hp} {pb db : Nat} {d : Dv} (hH : Has E w [sg, (yP pb d.p), R]) (hd : DevAt pb sg db d.la d.lo) (h4 : d.la.length ≤ 4096) (h3 : 3 ≤ d.la.length) (hon : d.p.off = false) (h64 : Full64 d.la) (hlo : d.lo = []) (hg : CellsAt R 0 0 nibV) :
  Calls Tryz.prog 16 #[(yp db)] w fun e w' => (opE d (((d.la.length : Nat) : Int) - 2) = 0 ∧ ∃ sb ab sg' ss, e = .returned (.tuple #[.pointer (some ⟨sb, 0, none⟩), .int .i64 0]) ∧ DevAt pb sg' db d.la d.lo ∧ StmAt db ab sb ss (opS d (((d.la.length : Nat) : Int) - 2)) ∧ Has E w' [ss, (yo ab #[(yp db), (yi 2), (yi (((d.la.length : Nat) : Int) - 2))] 265), sg', (yP pb d.p), R]) ∨ (opE d (((d.la.length : Nat) : Int) - 2) ≠ 0 ∧ e = .returned (.tuple #[.pointer none, .int .i64 (opE d (((d.la.length : Nat) : Int) - 2))]) ∧ Has E w' [sg, (yP pb d.p), R]) := by
 have hd0_ : DevAt pb sg db d.la [] := by rw [← hlo]; exact hd
 have hlk : LoOk d.lo d.la.length := by rw [hlo]; exact LoOk.nil _
 refine zs (args := [(yp db)]) Tryz.func16 rfl Tryz.ntmps16 (by simp) (yq fun K1 hK1 => (zd (za (zc (.pointer none) rfl (za (zc (yi 0) rfl (zf (ze (hK1 _ _ (yq fun K2 hK2 => (zd (za (zb (yp db) rfl (za (zk (vs := #[(yp db)]) ca96 rfl (zI rfl) (sbegin_ok ((hH.front 1 rfl).front 1 rfl).all2 hd h4 h3 hon) ?_)))))))))))))))
 rintro _ w6 ⟨ab3, rfl, hX4⟩
 refine ⟨_, rfl, ?_⟩
 have hH5 := hX4.of_all3
 refine za (zb (.tuple #[(yp ab3), (yi (0 : Int))]) rfl (za (zp (v := (yp ab3)) rfl rfl (za (zp (v := (yi (0 : Int))) rfl rfl (za (zc (yp ab3) rfl (za (zc (yi (0 : Int)) rfl (zf (ze (hK2 _ _ (yq fun K7 hK7 => (yq fun K8 hK8 => (zd (za (zb (yi (0 : Int)) rfl (za (o_neq (a := (0 : Int)) (b := 0) rfl rfl (zf (ze (hK8 _ _ (zt rfl (fun h9 => ?_) (fun h9 => ?_))))))))))))))))))))))))
 ·
  exact absurd h9 (by decide)
 ·
  refine wp_skip (ze (hK7 _ _ (yq fun K10 hK10 => (zd (za (zb (yp db) rfl (za (zk (vs := #[(yp db), (yi 0)]) ca97 rfl (zF rfl rfl) (hload_c (p := d.p) (la := d.la) ((hH5.front 2 rfl).front 2 rfl).all2 hd0_ (hg.mono (zh 1 rfl)) h64 h4 0) ?_))))))))
  rintro _ w13 ⟨rfl, hX11⟩
  refine ⟨_, rfl, ?_⟩
  have hH12 := hX11.of_all2
  refine za (zb (.tuple #[(.agg (yH (ldH d.p d.la 0))), (yi (ldE d.p d.la 0))]) rfl (za (zp (v := (.agg (yH (ldH d.p d.la 0)))) rfl rfl (za (zp (v := (yi (ldE d.p d.la 0))) rfl rfl (za (zU (cs := y0A) zY rfl hH12 fun b14 w15 hH16 => (zB (zv (vs := (yL (ldH d.p d.la 0))) (c' := (yH (ldH d.p d.la 0))) zY rfl rfl rfl rfl y5 (by simp) (by kernel_rfl) (hH16.front 0 rfl) fun w17 hH18 => (za (zc (yi (ldE d.p d.la 0)) rfl (zf (ze (hK10 _ _ (yq fun K19 hK19 => (yq fun K20 hK20 => (zd (za (zb (yi (ldE d.p d.la 0)) rfl (za (o_neq (a := ldE d.p d.la 0) (b := 0) rfl rfl (zf (ze (hK20 _ _ ?_))))))))))))))))))))))))
  refine zt rfl (fun h21 => ?_) (fun h21 => ?_)
  ·
   refine yq fun K22 hK22 => (zd (za (zb (yi (ldE d.p d.la 0)) rfl (za (zc (.pointer none) rfl (za (zc (yi (ldE d.p d.la 0)) rfl (zf (ze (hK22 _ _ (wp_ret (zx (ya Tryz.results16  (v := (.pointer none)) rfl (x := (yi (ldE d.p d.la 0))) rfl ?_)))))))))))))
   have hH23 := (((hH18.front 4 rfl).front 3 rfl).front 3 rfl).first 3 rfl
   have ho_ : opE d (((d.la.length : Nat) : Int) - 2) = ldE d.p d.la 0 := opE_ld h21
   exact .inr ⟨by rw [ho_]; exact h21, by rw [ho_], hH23⟩
  ·
   refine wp_skip (ze (hK19 _ _ (yq fun K24 hK24 => (Rest.region mixed (by kernel_rfl) ?_))))
   have hH25 : Has E { w17 with drawn := w17.drawn + 1 } [[Hp.one b14 (.cells (yH (ldH d.p d.la 0)) 23 (0, 0))], sg, (yP pb d.p), (yo ab3 #[(yp db), (yi 2), (yi (((d.la.length : Nat) : Int) - 2))] 265), R] := Has0.drew hH18 _
   refine Rest.phaseA (fun w_ => Has E w_ [[Hp.one b14 (.cells (yH (ldH d.p d.la 0)) 23 (0, 0))]]) 0 5 5 rfl (by decide) (by kernel_rfl) (zn 0 rfl (by kernel_rfl) (fun w_ h_ => zb (yp ab3) rfl ⟨rfl, rfl⟩) (zn 1 rfl (by kernel_rfl) (fun w_ h_ => zg (k := 3) (fun _ => by kernel_rfl) rfl ⟨rfl, rfl⟩) (zn 2 rfl (by kernel_rfl) (fun w_ h_ => zj (v := (yi (ldH d.p d.la 0).st)) Tryz.underlying3 rfl rfl h_ (zh 0 rfl) (CellsAt.one rfl) ⟨rfl, rfl⟩) (zn 3 rfl (by kernel_rfl) (fun w_ h_ => zb (yp ab3) rfl ⟨rfl, rfl⟩) ?_))))
   have hH26 := hH25.first 1 rfl
   refine a_w 4 rfl (by kernel_rfl) hH26 (zk (vs := #[(yp ab3)]) ca99 rfl (zI rfl) (alen_c (hH25.front 3 rfl).all1 ⟨by omega, by omega⟩) ?_)
   rintro _ w29 ⟨rfl, hX27⟩
   refine ⟨_, rfl, ?_⟩
   have hH28 : Has E w29 [(yo ab3 #[(yp db), (yi 2), (yi (((d.la.length : Nat) : Int) - 2))] 265), [Hp.one b14 (.cells (yH (ldH d.p d.la 0)) 23 (0, 0))], sg, (yP pb d.p), R] := hX27.of_all1
   have hH30 := (hH28.front 1 rfl).first 1 rfl
   refine zM (by kernel_rfl) hH30 ?_
   obtain ⟨hR1_, hR2_, hR3_, hR4_, hR5_⟩ := of_decide_eq_true (ld_R (Classical.not_not.1 h21))
   have hbl_ : (ringB d (((d.la.length : Nat) : Int) - 2) (ldH d.p d.la 0).st).length = ((((d.la.length : Nat) : Int) - 2) * 64).toNat := ringB_len h64 hlk (by omega) (by omega)
   refine zO 5 rfl (by kernel_rfl) (zk (vs := #[(yp ab3), (yi (ldH d.p d.la 0).st), (yi ((((d.la.length : Nat) : Int) - 2) * 64))]) ca98 rfl (args3 rfl rfl rfl) (dget_c (d := d) (fr := 2) (n := ((d.la.length : Nat) : Int) - 2) ((hH28.front 3 rfl).front 3 rfl).all3 hd h4 h64 hlk (by omega) (by omega) (by omega) hon (at_ := (ldH d.p d.la 0).st) ⟨by omega, by omega⟩ (size := (((d.la.length : Nat) : Int) - 2) * 64) ⟨by omega, by omega⟩) ?_)
   rintro _ w33 ⟨rfl, hX31⟩
   refine ⟨_, rfl, ?_⟩
   have hH32 : Has E w33 [sg, (yP pb d.p), (yo ab3 #[(yp db), (yi 2), (yi (((d.la.length : Nat) : Int) - 2))] 265), [Hp.one b14 (.cells (yH (ldH d.p d.la 0)) 23 (0, 0))], R] := hX31.of_all3
   refine zO 6 rfl (by kernel_rfl) (zb (.tuple #[(S (ringB d (((d.la.length : Nat) : Int) - 2) (ldH d.p d.la 0).st)), (yi (0 : Int))]) rfl (Rest.phaseA (fun w_ => Has E w_ []) 7 10 3 rfl (by decide) (by kernel_rfl) (zn 7 rfl (by kernel_rfl) (fun w_ h_ => zp (v := (S (ringB d (((d.la.length : Nat) : Int) - 2) (ldH d.p d.la 0).st))) rfl rfl ⟨rfl, rfl⟩) (zn 8 rfl (by kernel_rfl) (fun w_ h_ => zp (v := (yi (0 : Int))) rfl rfl ⟨rfl, rfl⟩) (zn 9 rfl (by kernel_rfl) (fun w_ h_ => zc (S (ringB d (((d.la.length : Nat) : Int) - 2) (ldH d.p d.la 0).st)) rfl ⟨rfl, rfl⟩) ?_)))))
   have hH34 := hH32.first 0 rfl
   refine zM (by kernel_rfl) hH34 (zO 10 rfl (by kernel_rfl) (zc (yi (0 : Int)) rfl (Rest.done (by kernel_rfl) (ze (hK24 _ _ (yq fun K35 hK35 => (yq fun K36 hK36 => (zd (za (zb (yi (0 : Int)) rfl (za (o_neq (a := (0 : Int)) (b := 0) rfl rfl (zf (ze (hK36 _ _ (zK rfl (decide_eq_false h9) (wp_skip (ze (hK35 _ _ (yq fun K37 hK37 => ?_))))))))))))))))))))
   refine zd (za (zg (k := 1) (fun _ => by kernel_rfl) rfl (za (zj (v := (yi (ldH d.p d.la 0).ep)) Tryz.underlying3 rfl rfl hH32 (zh 3 rfl) (CellsAt.one rfl) (za (zg (k := 2) (fun _ => by kernel_rfl) rfl (za (zj (v := (yi (ldH d.p d.la 0).cut)) Tryz.underlying3 rfl rfl hH32 (zh 3 rfl) (CellsAt.one rfl) (za (zJ (v := (.agg #[(yi (ldH d.p d.la 0).ep), (yi (ldH d.p d.la 0).cut)])) (fun _ => by kernel_rfl) (za (zb (S (ringB d (((d.la.length : Nat) : Int) - 2) (ldH d.p d.la 0).st)) rfl (za (zg (k := 3) (fun _ => by kernel_rfl) rfl (za (zj (v := (yi (ldH d.p d.la 0).st)) Tryz.underlying3 rfl rfl hH32 (zh 3 rfl) (CellsAt.one rfl) (za (zk (vs := #[(.agg #[(yi (ldH d.p d.la 0).ep), (yi (ldH d.p d.la 0).cut)]), (S (ringB d (((d.la.length : Nat) : Int) - 2) (ldH d.p d.la 0).st)), (yi (ldH d.p d.la 0).st), (yi (-1))]) ca100 rfl (args4 rfl rfl rfl rfl) (chain_c hH32.all (hg.mono (zh 4 rfl)) (ringB d (((d.la.length : Nat) : Int) - 2) (ldH d.p d.la 0).st) (by omega) ((ldH d.p d.la 0).ep) ((ldH d.p d.la 0).cut) ((ldH d.p d.la 0).st) (-1) (by omega)) ?_))))))))))))))))))
   rintro _ w43 ⟨v38, s39, rfl, ho40, hX41⟩
   refine ⟨_, rfl, ?_⟩
   have hH42 : Has E w43 [s39, sg, (yP pb d.p), (yo ab3 #[(yp db), (yi 2), (yi (((d.la.length : Nat) : Int) - 2))] 265), [Hp.one b14 (.cells (yH (ldH d.p d.la 0)) 23 (0, 0))], R] := hX41.of_all1
   refine za (zb (.tuple #[v38, (yi ((chainS ((ldH d.p d.la 0).ep) ((ldH d.p d.la 0).cut) ((ringB d (((d.la.length : Nat) : Int) - 2) (ldH d.p d.la 0).st).length + 1) (ringB d (((d.la.length : Nat) : Int) - 2) (ldH d.p d.la 0).st) ((ldH d.p d.la 0).st) (-1)).2))]) rfl (za (zp (v := v38) rfl rfl (za (zp (v := (yi ((chainS ((ldH d.p d.la 0).ep) ((ldH d.p d.la 0).cut) ((ringB d (((d.la.length : Nat) : Int) - 2) (ldH d.p d.la 0).st).length + 1) (ringB d (((d.la.length : Nat) : Int) - 2) (ldH d.p d.la 0).st) ((ldH d.p d.la 0).st) (-1)).2))) rfl rfl (za (zc v38 rfl (za (zc (yi ((chainS ((ldH d.p d.la 0).ep) ((ldH d.p d.la 0).cut) ((ringB d (((d.la.length : Nat) : Int) - 2) (ldH d.p d.la 0).st).length + 1) (ringB d (((d.la.length : Nat) : Int) - 2) (ldH d.p d.la 0).st) ((ldH d.p d.la 0).st) (-1)).2)) rfl (zf (ze (hK37 _ _ (yq fun K44 hK44 => (yq fun K45 hK45 => (zd (za (zg (k := 1) (fun _ => by kernel_rfl) rfl (za (zj (v := (yi (ldH d.p d.la 0).ep)) Tryz.underlying3 rfl rfl hH42 (zh 4 rfl) (CellsAt.one rfl) (za (yc (a := (ldH d.p d.la 0).ep) (b := 0) rfl rfl (za (zb (.bool (decide ((ldH d.p d.la 0).ep = 0))) rfl ?_)))))))))))))))))))))))
   by_cases h46 : (ldH d.p d.la 0).ep = 0
   ·
    refine zi (b' := true) 56 rfl (cT h46) rfl (zi (b' := true) 56 rfl (cT h46) rfl (zi (b' := true) 56 rfl (cT h46) rfl (zi (b' := true) 56 rfl (cT h46) rfl (zi (b' := true) 56 rfl (cT h46) rfl (za (zq (u := (.bool true)) ((rfl : _ = _).trans (cT h46)) rfl (za (zb (.bool true) rfl (zi (b' := true) 63 rfl rfl rfl (zi (b' := true) 63 rfl rfl rfl (zi (b' := true) 63 rfl rfl rfl (zi (b' := true) 63 rfl rfl rfl (za (zq (u := (.bool true)) rfl rfl (zf (ze (hK45 _ _ (zP rfl rfl ?_))))))))))))))))))
    refine yq fun K47 hK47 => (zd (za (zc (.pointer none) rfl (za (zc (yi 9) rfl (zf (ze (hK47 _ _ (wp_ret (zx (ya Tryz.results16  (v := (.pointer none)) rfl (x := (yi 9)) rfl ?_)))))))))))
    have hH48 := (((hH42.front 5 rfl).front 3 rfl).front 3 rfl).first 3 rfl
    have ho_ : opE d (((d.la.length : Nat) : Int) - 2) = 9 := opE_bad (Classical.not_not.1 h21) (by first | exact .inl h46 | exact .inr (.inl h46) | exact .inr (.inr h46))
    exact .inr ⟨by rw [ho_]; decide, by rw [ho_], hH48⟩
   ·
    refine zo 56 rfl (cF h46) (zg (k := 3) (fun _ => by kernel_rfl) rfl (zo 56 rfl (cF h46) (zj (v := (yi (ldH d.p d.la 0).st)) Tryz.underlying3 rfl rfl hH42 (zh 4 rfl) (CellsAt.one rfl) (zo 56 rfl (cF h46) (zg (k := 2) (fun _ => by kernel_rfl) rfl (zo 56 rfl (cF h46) (zj (v := (yi (ldH d.p d.la 0).cut)) Tryz.underlying3 rfl rfl hH42 (zh 4 rfl) (CellsAt.one rfl) (zo 56 rfl (cF h46) (o_gtr (a := (ldH d.p d.la 0).st) (b := (ldH d.p d.la 0).cut) rfl rfl (za (zm (u := (.bool (decide ((ldH d.p d.la 0).cut < (ldH d.p d.la 0).st)))) ((rfl : _ = _).trans (cF h46)) rfl (za (zb (.bool (decide ((ldH d.p d.la 0).cut < (ldH d.p d.la 0).st))) rfl ?_)))))))))))))
    by_cases h49 : (ldH d.p d.la 0).cut < (ldH d.p d.la 0).st
    ·
     refine zi (b' := true) 63 rfl (cT h49) rfl (zi (b' := true) 63 rfl (cT h49) rfl (zi (b' := true) 63 rfl (cT h49) rfl (zi (b' := true) 63 rfl (cT h49) rfl (za (zq (u := (.bool true)) ((rfl : _ = _).trans (cT h49)) rfl (zf (ze (hK45 _ _ (zP rfl rfl (yq fun K50 hK50 => (zd (za (zc (.pointer none) rfl (za (zc (yi 9) rfl (zf (ze (hK50 _ _ (wp_ret ?_)))))))))))))))))))
     refine zx (ya Tryz.results16  (v := (.pointer none)) rfl (x := (yi 9)) rfl ?_)
     have hH51 := (((hH42.front 5 rfl).front 3 rfl).front 3 rfl).first 3 rfl
     have ho_ : opE d (((d.la.length : Nat) : Int) - 2) = 9 := opE_bad (Classical.not_not.1 h21) (by first | exact .inl h49 | exact .inr (.inl h49) | exact .inr (.inr h49))
     exact .inr ⟨by rw [ho_]; decide, by rw [ho_], hH51⟩
    ·
     refine zo 63 rfl (cF h49) (zb (yi ((chainS ((ldH d.p d.la 0).ep) ((ldH d.p d.la 0).cut) ((ringB d (((d.la.length : Nat) : Int) - 2) (ldH d.p d.la 0).st).length + 1) (ringB d (((d.la.length : Nat) : Int) - 2) (ldH d.p d.la 0).st) ((ldH d.p d.la 0).st) (-1)).2)) rfl (zo 63 rfl (cF h49) (zg (k := 2) (fun _ => by kernel_rfl) rfl (zo 63 rfl (cF h49) (zj (v := (yi (ldH d.p d.la 0).cut)) Tryz.underlying3 rfl rfl hH42 (zh 4 rfl) (CellsAt.one rfl) (zo 63 rfl (cF h49) (zL (a := (chainS ((ldH d.p d.la 0).ep) ((ldH d.p d.la 0).cut) ((ringB d (((d.la.length : Nat) : Int) - 2) (ldH d.p d.la 0).st).length + 1) (ringB d (((d.la.length : Nat) : Int) - 2) (ldH d.p d.la 0).st) ((ldH d.p d.la 0).st) (-1)).2) (b := (ldH d.p d.la 0).cut) rfl rfl (za (zm (u := (.bool (decide ((chainS ((ldH d.p d.la 0).ep) ((ldH d.p d.la 0).cut) ((ringB d (((d.la.length : Nat) : Int) - 2) (ldH d.p d.la 0).st).length + 1) (ringB d (((d.la.length : Nat) : Int) - 2) (ldH d.p d.la 0).st) ((ldH d.p d.la 0).st) (-1)).2 < (ldH d.p d.la 0).cut)))) ((rfl : _ = _).trans (cF h49)) rfl (zf (ze (hK45 _ _ (zt rfl (fun h52 => ?_) (fun h52 => ?_))))))))))))))
     ·
      refine yq fun K53 hK53 => (zd (za (zc (.pointer none) rfl (za (zc (yi 9) rfl (zf (ze (hK53 _ _ (wp_ret (zx (ya Tryz.results16  (v := (.pointer none)) rfl (x := (yi 9)) rfl ?_)))))))))))
      have hH54 := (((hH42.front 5 rfl).front 3 rfl).front 3 rfl).first 3 rfl
      have ho_ : opE d (((d.la.length : Nat) : Int) - 2) = 9 := opE_bad (Classical.not_not.1 h21) (by first | exact .inl h52 | exact .inr (.inl h52) | exact .inr (.inr h52))
      exact .inr ⟨by rw [ho_]; decide, by rw [ho_], hH54⟩
     ·
      refine wp_skip (ze (hK44 _ _ (yq fun K55 hK55 => (zd (za (zG (cs := (yL (ldH d.p d.la 0))) Tryz.underlying23 rfl zY rfl hH42 (zh 4 rfl) (CellsAt.one rfl) (za (zJ (v := (.agg (yH (ldH d.p d.la 0)))) (fun _ => by kernel_rfl) (za (zb (yp db) rfl (za (zb (yp ab3) rfl (za (zb (yi ((chainS ((ldH d.p d.la 0).ep) ((ldH d.p d.la 0).cut) ((ringB d (((d.la.length : Nat) : Int) - 2) (ldH d.p d.la 0).st).length + 1) (ringB d (((d.la.length : Nat) : Int) - 2) (ldH d.p d.la 0).st) ((ldH d.p d.la 0).st) (-1)).2)) rfl (za (zb v38 rfl (za (zQ Tryz.underlying167 rfl ho40.sl (za (zJ (v := (.agg #[(yi (ldH d.p d.la 0).seq), (yi (ldH d.p d.la 0).ep), (yi (ldH d.p d.la 0).cut), (yi (ldH d.p d.la 0).st), (yi (ldH d.p d.la 0).mrk), (yp db), (yp ab3), (.slice none 0 0), (yi ((chainS ((ldH d.p d.la 0).ep) ((ldH d.p d.la 0).cut) ((ringB d (((d.la.length : Nat) : Int) - 2) (ldH d.p d.la 0).st).length + 1) (ringB d (((d.la.length : Nat) : Int) - 2) (ldH d.p d.la 0).st) ((ldH d.p d.la 0).st) (-1)).2)), (yi ((((chainS ((ldH d.p d.la 0).ep) ((ldH d.p d.la 0).cut) ((ringB d (((d.la.length : Nat) : Int) - 2) (ldH d.p d.la 0).st).length + 1) (ringB d (((d.la.length : Nat) : Int) - 2) (ldH d.p d.la 0).st) ((ldH d.p d.la 0).st) (-1)).1).length : Nat) : Int)), (yi 0), (.bool false), (yi 0)])) (fun _ => by kernel_rfl) (za (o_box (cs := #[(yi (ldH d.p d.la 0).seq), (yi (ldH d.p d.la 0).ep), (yi (ldH d.p d.la 0).cut), (yi (ldH d.p d.la 0).st), (yi (ldH d.p d.la 0).mrk), (yp db), (yp ab3), (.slice none 0 0), (yi ((chainS ((ldH d.p d.la 0).ep) ((ldH d.p d.la 0).cut) ((ringB d (((d.la.length : Nat) : Int) - 2) (ldH d.p d.la 0).st).length + 1) (ringB d (((d.la.length : Nat) : Int) - 2) (ldH d.p d.la 0).st) ((ldH d.p d.la 0).st) (-1)).2)), (yi ((((chainS ((ldH d.p d.la 0).ep) ((ldH d.p d.la 0).cut) ((ringB d (((d.la.length : Nat) : Int) - 2) (ldH d.p d.la 0).st).length + 1) (ringB d (((d.la.length : Nat) : Int) - 2) (ldH d.p d.la 0).st) ((ldH d.p d.la 0).st) (-1)).1).length : Nat) : Int)), (yi 0), (.bool false), (yi 0)]) rfl rfl hH42 fun b56 w57 hH58 => (za (zc (yp b56) rfl (zf ?_)))))))))))))))))))))))))
      refine ze (hK55 _ _ (yq fun K59 hK59 => (yq fun K60 hK60 => (zd (za (zb v38 rfl (za (zQ Tryz.underlying167 rfl ho40.sl (za (zb (yi 0) rfl (zf (ze (hK60 _ _ (wp_block ?_))))))))))))))
      have hcc_ := chain_count (ldH d.p d.la 0).ep (ldH d.p d.la 0).cut ((ringB d (((d.la.length : Nat) : Int) - 2) (ldH d.p d.la 0).st).length + 1) (ringB d (((d.la.length : Nat) : Int) - 2) (ldH d.p d.la 0).st) (ldH d.p d.la 0).st (-1)
      have hF_ : (chainS ((ldH d.p d.la 0).ep) ((ldH d.p d.la 0).cut) ((ringB d (((d.la.length : Nat) : Int) - 2) (ldH d.p d.la 0).st).length + 1) (ringB d (((d.la.length : Nat) : Int) - 2) (ldH d.p d.la 0).st) ((ldH d.p d.la 0).st) (-1)).1.length = ((opC d (((d.la.length : Nat) : Int) - 2)).1).length := rfl
      let I62 : Nat → (Nat → Value) → World → Prop := fun n__ r__ w__ => ∃ (j : Nat) (va : Value) (ha : List Hp) (acc : List LEnt), n__ = ((chainS ((ldH d.p d.la 0).ep) ((ldH d.p d.la 0).cut) ((ringB d (((d.la.length : Nat) : Int) - 2) (ldH d.p d.la 0).st).length + 1) (ringB d (((d.la.length : Nat) : Int) - 2) (ldH d.p d.la 0).st) ((ldH d.p d.la 0).st) (-1)).1).length - j ∧ Has E w__ [ha, (yo b56 #[(yi (ldH d.p d.la 0).seq), (yi (ldH d.p d.la 0).ep), (yi (ldH d.p d.la 0).cut), (yi (ldH d.p d.la 0).st), (yi (ldH d.p d.la 0).mrk), (yp db), (yp ab3), va, (yi ((chainS ((ldH d.p d.la 0).ep) ((ldH d.p d.la 0).cut) ((ringB d (((d.la.length : Nat) : Int) - 2) (ldH d.p d.la 0).st).length + 1) (ringB d (((d.la.length : Nat) : Int) - 2) (ldH d.p d.la 0).st) ((ldH d.p d.la 0).st) (-1)).2)), (yi ((((chainS ((ldH d.p d.la 0).ep) ((ldH d.p d.la 0).cut) ((ringB d (((d.la.length : Nat) : Int) - 2) (ldH d.p d.la 0).st).length + 1) (ringB d (((d.la.length : Nat) : Int) - 2) (ldH d.p d.la 0).st) ((ldH d.p d.la 0).st) (-1)).1).length : Nat) : Int)), (yi 0), (.bool false), (yi 0)] 175), s39, sg, (yP pb d.p), (yo ab3 #[(yp db), (yi 2), (yi (((d.la.length : Nat) : Int) - 2))] 265), [Hp.one b14 (.cells (yH (ldH d.p d.la 0)) 23 (0, 0))], R] ∧ (j ≤ ((chainS ((ldH d.p d.la 0).ep) ((ldH d.p d.la 0).cut) ((ringB d (((d.la.length : Nat) : Int) - 2) (ldH d.p d.la 0).st).length + 1) (ringB d (((d.la.length : Nat) : Int) - 2) (ldH d.p d.la 0).st) ((ldH d.p d.la 0).st) (-1)).1).length) ∧ (Own 42 3 va acc.length (acc.flatMap enC) ha) ∧ (acc = (((chainS ((ldH d.p d.la 0).ep) ((ldH d.p d.la 0).cut) ((ringB d (((d.la.length : Nat) : Int) - 2) (ldH d.p d.la 0).st).length + 1) (ringB d (((d.la.length : Nat) : Int) - 2) (ldH d.p d.la 0).st) ((ldH d.p d.la 0).st) (-1)).1).take j).map entF) ∧ (acc.length ≤ j) ∧ r__ 0 = (yp db) ∧ r__ 2 = (.pointer none) ∧ r__ 3 = (yi 0) ∧ r__ 4 = (yp ab3) ∧ r__ 5 = (yi (0 : Int)) ∧ r__ 6 = (yp b14) ∧ r__ 7 = (S (ringB d (((d.la.length : Nat) : Int) - 2) (ldH d.p d.la 0).st)) ∧ r__ 8 = v38 ∧ r__ 9 = (yi ((chainS ((ldH d.p d.la 0).ep) ((ldH d.p d.la 0).cut) ((ringB d (((d.la.length : Nat) : Int) - 2) (ldH d.p d.la 0).st).length + 1) (ringB d (((d.la.length : Nat) : Int) - 2) (ldH d.p d.la 0).st) ((ldH d.p d.la 0).st) (-1)).2)) ∧ r__ 10 = (yp b56) ∧ r__ 19 = (.bool (decide ((0 : Int) ≠ 0))) ∧ r__ 27 = (.bool (decide (ldE d.p d.la 0 ≠ 0))) ∧ r__ 39 = (.bool (decide ((0 : Int) ≠ 0))) ∧ r__ 68 = (.bool (decide ((chainS ((ldH d.p d.la 0).ep) ((ldH d.p d.la 0).cut) ((ringB d (((d.la.length : Nat) : Int) - 2) (ldH d.p d.la 0).st).length + 1) (ringB d (((d.la.length : Nat) : Int) - 2) (ldH d.p d.la 0).st) ((ldH d.p d.la 0).st) (-1)).2 < (ldH d.p d.la 0).cut))) ∧ r__ 78 = v38 ∧ r__ 79 = (yi ((((chainS ((ldH d.p d.la 0).ep) ((ldH d.p d.la 0).cut) ((ringB d (((d.la.length : Nat) : Int) - 2) (ldH d.p d.la 0).st).length + 1) (ringB d (((d.la.length : Nat) : Int) - 2) (ldH d.p d.la 0).st) ((ldH d.p d.la 0).st) (-1)).1).length : Nat) : Int)) ∧ r__ 80 = (yi (j : Int))
      have hH63 : Has E w57 [[], (yo b56 #[(yi (ldH d.p d.la 0).seq), (yi (ldH d.p d.la 0).ep), (yi (ldH d.p d.la 0).cut), (yi (ldH d.p d.la 0).st), (yi (ldH d.p d.la 0).mrk), (yp db), (yp ab3), (.slice none 0 0), (yi ((chainS ((ldH d.p d.la 0).ep) ((ldH d.p d.la 0).cut) ((ringB d (((d.la.length : Nat) : Int) - 2) (ldH d.p d.la 0).st).length + 1) (ringB d (((d.la.length : Nat) : Int) - 2) (ldH d.p d.la 0).st) ((ldH d.p d.la 0).st) (-1)).2)), (yi ((((chainS ((ldH d.p d.la 0).ep) ((ldH d.p d.la 0).cut) ((ringB d (((d.la.length : Nat) : Int) - 2) (ldH d.p d.la 0).st).length + 1) (ringB d (((d.la.length : Nat) : Int) - 2) (ldH d.p d.la 0).st) ((ldH d.p d.la 0).st) (-1)).1).length : Nat) : Int)), (yi 0), (.bool false), (yi 0)] 175), s39, sg, (yP pb d.p), (yo ab3 #[(yp db), (yi 2), (yi (((d.la.length : Nat) : Int) - 2))] 265), [Hp.one b14 (.cells (yH (ldH d.p d.la 0)) 23 (0, 0))], R] := Has.pick (Has.nil hH58) [0, 0, 0, 0, 0, 0, 0, 0] (by kernel_rfl)
      refine zX I62 _ ⟨0, (.slice none 0 0), [], ([] : List LEnt), rfl, hH63, Nat.zero_le _, Own.nil 42 3, rfl, (by simp), rfl, rfl, rfl, rfl, rfl, rfl, rfl, rfl, rfl, rfl, rfl, rfl, rfl, rfl, rfl, rfl, rfl⟩ ?_
      rintro n_ r67 w65 ⟨j, va, ha, acc, rfl, hH66, hj, hoa, hac, hal, e61_0, e61_2, e61_3, e61_4, e61_5, e61_6, e61_7, e61_8, e61_9, e61_10, e61_19, e61_27, e61_39, e61_68, e61_78, e61_79, e61_80⟩
      refine yq fun K68 hK68 => (zd (za (zL (a := (j : Int)) (b := ((((chainS ((ldH d.p d.la 0).ep) ((ldH d.p d.la 0).cut) ((ringB d (((d.la.length : Nat) : Int) - 2) (ldH d.p d.la 0).st).length + 1) (ringB d (((d.la.length : Nat) : Int) - 2) (ldH d.p d.la 0).st) ((ldH d.p d.la 0).st) (-1)).1).length : Nat) : Int)) e61_80 e61_79 (zf (ze (hK68 _ _ (yq fun K69 hK69 => (zt rfl (fun h70 => ?_) (fun h70 => ?_)))))))))
      ·
       refine wp_skip (ze (hK69 _ _ (yq fun K71 hK71 => (wp_block (yq fun K72 hK72 => (zd ?_))))))
       obtain ⟨x76, hx77⟩ : ∃ x_, ((chainS ((ldH d.p d.la 0).ep) ((ldH d.p d.la 0).cut) ((ringB d (((d.la.length : Nat) : Int) - 2) (ldH d.p d.la 0).st).length + 1) (ringB d (((d.la.length : Nat) : Int) - 2) (ldH d.p d.la 0).st) ((ldH d.p d.la 0).st) (-1)).1)[((j : Int)).toNat]? = some x_ := zN (by omega)
       refine za (o_indexF frC_len Tryz.underlying167 ti176 e61_78 ho40.sl rfl e61_80 (by omega) hx77 fun b73 o74 hc75 => (za (zG (cs := [(yi x76.ep), (yi x76.pl), (yi x76.gsn), (S x76.data)]) Tryz.underlying176 rfl ti176 rfl hH66 (zh 2 rfl) hc75 (za (zU (cs := #[(yi 0), (yi 0), (yi 0), (S ([] : List UInt8))]) ti176 rfl hH66 fun b78 w79 hH80 => (zB (zv (vs := [(yi x76.ep), (yi x76.pl), (yi x76.gsn), (S x76.data)]) (c' := #[(yi x76.ep), (yi x76.pl), (yi x76.gsn), (S x76.data)]) ti176 rfl rfl rfl rfl (by intro u hu; simp only [List.mem_cons, List.not_mem_nil, or_false] at hu; rcases hu with rfl | rfl | rfl | rfl <;> first | rfl) (by simp) (by kernel_rfl) (hH80.front 0 rfl) fun w81 hH82 => (zf (ze (hK72 _ _ (Rest.region mixed (by kernel_rfl) ?_)))))))))))
       have hH83 : Has E { w81 with drawn := w81.drawn + 1 } [(yo b78 #[(yi x76.ep), (yi x76.pl), (yi x76.gsn), (S x76.data)] 176), ha, (yo b56 #[(yi (ldH d.p d.la 0).seq), (yi (ldH d.p d.la 0).ep), (yi (ldH d.p d.la 0).cut), (yi (ldH d.p d.la 0).st), (yi (ldH d.p d.la 0).mrk), (yp db), (yp ab3), va, (yi ((chainS ((ldH d.p d.la 0).ep) ((ldH d.p d.la 0).cut) ((ringB d (((d.la.length : Nat) : Int) - 2) (ldH d.p d.la 0).st).length + 1) (ringB d (((d.la.length : Nat) : Int) - 2) (ldH d.p d.la 0).st) ((ldH d.p d.la 0).st) (-1)).2)), (yi ((((chainS ((ldH d.p d.la 0).ep) ((ldH d.p d.la 0).cut) ((ringB d (((d.la.length : Nat) : Int) - 2) (ldH d.p d.la 0).st).length + 1) (ringB d (((d.la.length : Nat) : Int) - 2) (ldH d.p d.la 0).st) ((ldH d.p d.la 0).st) (-1)).1).length : Nat) : Int)), (yi 0), (.bool false), (yi 0)] 175), s39, sg, (yP pb d.p), (yo ab3 #[(yp db), (yi 2), (yi (((d.la.length : Nat) : Int) - 2))] 265), [Hp.one b14 (.cells (yH (ldH d.p d.la 0)) 23 (0, 0))], R] := Has0.drew hH82 _
       refine Rest.phaseA (fun w_ => Has E w_ [(yo b78 #[(yi x76.ep), (yi x76.pl), (yi x76.gsn), (S x76.data)] 176), (yo b56 #[(yi (ldH d.p d.la 0).seq), (yi (ldH d.p d.la 0).ep), (yi (ldH d.p d.la 0).cut), (yi (ldH d.p d.la 0).st), (yi (ldH d.p d.la 0).mrk), (yp db), (yp ab3), va, (yi ((chainS ((ldH d.p d.la 0).ep) ((ldH d.p d.la 0).cut) ((ringB d (((d.la.length : Nat) : Int) - 2) (ldH d.p d.la 0).st).length + 1) (ringB d (((d.la.length : Nat) : Int) - 2) (ldH d.p d.la 0).st) ((ldH d.p d.la 0).st) (-1)).2)), (yi ((((chainS ((ldH d.p d.la 0).ep) ((ldH d.p d.la 0).cut) ((ringB d (((d.la.length : Nat) : Int) - 2) (ldH d.p d.la 0).st).length + 1) (ringB d (((d.la.length : Nat) : Int) - 2) (ldH d.p d.la 0).st) ((ldH d.p d.la 0).st) (-1)).1).length : Nat) : Int)), (yi 0), (.bool false), (yi 0)] 175)]) 0 14 14 rfl (by decide) (by kernel_rfl) (zn 0 rfl (by kernel_rfl) (fun w_ h_ => zb (yp b56) e61_10 ⟨rfl, rfl⟩) (zn 1 rfl (by kernel_rfl) (fun w_ h_ => zb (yp b56) e61_10 ⟨rfl, rfl⟩) (zn 2 rfl (by kernel_rfl) (fun w_ h_ => zl rfl ⟨rfl, rfl⟩) (zn 3 rfl (by kernel_rfl) (fun w_ h_ => zg (k := 7) (fun _ => by kernel_rfl) rfl ⟨rfl, rfl⟩) (zn 4 rfl (by kernel_rfl) (fun w_ h_ => zj (v := va) Tryz.underlying37 rfl rfl h_ (zh 1 rfl) (CellsAt.one rfl) ⟨rfl, rfl⟩) (zn 5 rfl (by kernel_rfl) (fun w_ h_ => zg (k := 2) (fun _ => by kernel_rfl) rfl ⟨rfl, rfl⟩) (zn 6 rfl (by kernel_rfl) (fun w_ h_ => zj (v := (yi x76.gsn)) Tryz.underlying3 rfl rfl h_ (zh 0 rfl) (CellsAt.one rfl) ⟨rfl, rfl⟩) (zn 7 rfl (by kernel_rfl) (fun w_ h_ => zg (k := 1) (fun _ => by kernel_rfl) rfl ⟨rfl, rfl⟩) (zn 8 rfl (by kernel_rfl) (fun w_ h_ => zj (v := (yi x76.pl)) Tryz.underlying3 rfl rfl h_ (zh 0 rfl) (CellsAt.one rfl) ⟨rfl, rfl⟩) (zn 9 rfl (by kernel_rfl) (fun w_ h_ => zg (k := 3) (fun _ => by kernel_rfl) rfl ⟨rfl, rfl⟩) (zn 10 rfl (by kernel_rfl) (fun w_ h_ => zj (v := (S x76.data)) Tryz.underlying9 rfl rfl h_ (zh 0 rfl) (CellsAt.one rfl) ⟨rfl, rfl⟩) (zn 11 rfl (by kernel_rfl) (fun w_ h_ => zJ (v := (.agg #[(yi x76.gsn), (yi x76.pl), (S x76.data)])) (fun _ => by kernel_rfl) ⟨rfl, rfl⟩) ?_))))))))))))
       have hH84 := ((hH83.front 2 rfl).front 1 rfl).first 2 rfl
       refine a_w 12 rfl (by kernel_rfl) hH84 (zw (ps := #[(0, (.agg #[(yi x76.gsn), (yi x76.pl), (S x76.data)]))]) (cells := #[(yi x76.gsn), (yi x76.pl), (S x76.data)]) Tryz.underlying37 ti42 (by decide) (yb rfl) (by kernel_rfl) hH83 fun b85 w86 hH87 => ?_)
       have hH88 := ((hH87.front 3 rfl).front 2 rfl).first 2 rfl
       refine a_w 13 rfl (by kernel_rfl) hH88 (o_append Tryz.underlying37 ti42 rfl (by decide) rfl hoa rfl (sl_litF (f := enC) (l := [(LEnt.mk x76.gsn x76.pl x76.data)]) enC_len rfl rfl (by simp)) (hH87.front 2 rfl) (zh 0 rfl) (one_enC _) (by simp only [List.length_cons, List.length_nil]; omega) (by simp only [List.length_cons, List.length_nil]; omega) fun v89 s90 w92 ho91 hH93 => ?_)
       have ho91 : Own 42 3 v89 (acc ++ [(LEnt.mk x76.gsn x76.pl x76.data)]).length ((acc ++ [(LEnt.mk x76.gsn x76.pl x76.data)]).flatMap enC) s90 := ho91.appF
       have hH94 := ((hH93.front 3 rfl).front 3 rfl).first 2 rfl
       refine zM (by kernel_rfl) hH94 (zO 14 rfl (by kernel_rfl) (zl rfl (zO 15 rfl (by kernel_rfl) (zg (k := 7) (fun _ => by kernel_rfl) rfl (r_eff 16 rfl (by kernel_rfl) (zH (c' := #[(yi (ldH d.p d.la 0).seq), (yi (ldH d.p d.la 0).ep), (yi (ldH d.p d.la 0).cut), (yi (ldH d.p d.la 0).st), (yi (ldH d.p d.la 0).mrk), (yp db), (yp ab3), v89, (yi ((chainS ((ldH d.p d.la 0).ep) ((ldH d.p d.la 0).cut) ((ringB d (((d.la.length : Nat) : Int) - 2) (ldH d.p d.la 0).st).length + 1) (ringB d (((d.la.length : Nat) : Int) - 2) (ldH d.p d.la 0).st) ((ldH d.p d.la 0).st) (-1)).2)), (yi ((((chainS ((ldH d.p d.la 0).ep) ((ldH d.p d.la 0).cut) ((ringB d (((d.la.length : Nat) : Int) - 2) (ldH d.p d.la 0).st).length + 1) (ringB d (((d.la.length : Nat) : Int) - 2) (ldH d.p d.la 0).st) ((ldH d.p d.la 0).st) (-1)).1).length : Nat) : Int)), (yi 0), (.bool false), (yi 0)]) ti37 rfl rfl ho91.one (by simp) rfl (hH93.front 3 rfl) fun w95 hH96 => (Rest.done (by kernel_rfl) (zC (ze (hK71 _ _ (zd (za (zD (a := (j : Int)) (b := 1) e61_80 rfl (w64 (by omega) (by omega)) (za (zb (yi ((j : Int) + 1)) rfl (zf ?_))))))))))))))))
       have hH97 : Has E w95 [s90, (yo b56 #[(yi (ldH d.p d.la 0).seq), (yi (ldH d.p d.la 0).ep), (yi (ldH d.p d.la 0).cut), (yi (ldH d.p d.la 0).st), (yi (ldH d.p d.la 0).mrk), (yp db), (yp ab3), v89, (yi ((chainS ((ldH d.p d.la 0).ep) ((ldH d.p d.la 0).cut) ((ringB d (((d.la.length : Nat) : Int) - 2) (ldH d.p d.la 0).st).length + 1) (ringB d (((d.la.length : Nat) : Int) - 2) (ldH d.p d.la 0).st) ((ldH d.p d.la 0).st) (-1)).2)), (yi ((((chainS ((ldH d.p d.la 0).ep) ((ldH d.p d.la 0).cut) ((ringB d (((d.la.length : Nat) : Int) - 2) (ldH d.p d.la 0).st).length + 1) (ringB d (((d.la.length : Nat) : Int) - 2) (ldH d.p d.la 0).st) ((ldH d.p d.la 0).st) (-1)).1).length : Nat) : Int)), (yi 0), (.bool false), (yi 0)] 175), s39, sg, (yP pb d.p), (yo ab3 #[(yp db), (yi 2), (yi (((d.la.length : Nat) : Int) - 2))] 265), [Hp.one b14 (.cells (yH (ldH d.p d.la 0)) 23 (0, 0))], R] := Has.pick hH96 [1, 0, 2, 2, 2, 2, 2, 2] (by kernel_rfl)
       refine ze ⟨((chainS ((ldH d.p d.la 0).ep) ((ldH d.p d.la 0).cut) ((ringB d (((d.la.length : Nat) : Int) - 2) (ldH d.p d.la 0).st).length + 1) (ringB d (((d.la.length : Nat) : Int) - 2) (ldH d.p d.la 0).st) ((ldH d.p d.la 0).st) (-1)).1).length - (j + 1), _, rfl, ?_, ?_⟩
       · omega
       · exact ⟨(j + 1), v89, s90, (acc ++ [(LEnt.mk x76.gsn x76.pl x76.data)]), rfl, hH97, (by omega), (ho91), (by rw [zS (show (chainS ((ldH d.p d.la 0).ep) ((ldH d.p d.la 0).cut) ((ringB d (((d.la.length : Nat) : Int) - 2) (ldH d.p d.la 0).st).length + 1) (ringB d (((d.la.length : Nat) : Int) - 2) (ldH d.p d.la 0).st) ((ldH d.p d.la 0).st) (-1)).1[j]? = some _ from hx77), ent_snoc, ← hac]; rfl), (by simp only [List.length_append, List.length_cons, List.length_nil]; omega), e61_0, e61_2, e61_3, e61_4, e61_5, e61_6, e61_7, e61_8, e61_9, e61_10, e61_19, e61_27, e61_39, e61_68, e61_78, e61_79, rfl⟩
      ·
       refine wp_exit (zy (zy (x_in ((ze (hK59 _ _ (yq fun K98 hK98 => (zd (za (zb (yp b56) e61_10 (za (zc (yp b56) rfl (za (zc (yi 0) rfl (zf (ze (hK98 _ _ (wp_ret (ya Tryz.results16  (v := (yp b56)) rfl (x := (yi 0)) rfl ?_)))))))))))))))))))
       have hH99 := Has.cl2 (hH66.front 1 rfl)
       have hd100 : StmAt db ab3 b56 ((yo b56 #[(yi (ldH d.p d.la 0).seq), (yi (ldH d.p d.la 0).ep), (yi (ldH d.p d.la 0).cut), (yi (ldH d.p d.la 0).st), (yi (ldH d.p d.la 0).mrk), (yp db), (yp ab3), va, (yi ((chainS ((ldH d.p d.la 0).ep) ((ldH d.p d.la 0).cut) ((ringB d (((d.la.length : Nat) : Int) - 2) (ldH d.p d.la 0).st).length + 1) (ringB d (((d.la.length : Nat) : Int) - 2) (ldH d.p d.la 0).st) ((ldH d.p d.la 0).st) (-1)).2)), (yi ((((chainS ((ldH d.p d.la 0).ep) ((ldH d.p d.la 0).cut) ((ringB d (((d.la.length : Nat) : Int) - 2) (ldH d.p d.la 0).st).length + 1) (ringB d (((d.la.length : Nat) : Int) - 2) (ldH d.p d.la 0).st) ((ldH d.p d.la 0).st) (-1)).1).length : Nat) : Int)), (yi 0), (.bool false), (yi 0)] 175) ++ ha) (⟨(ldH d.p d.la 0).seq, (ldH d.p d.la 0).ep, (ldH d.p d.la 0).cut, (ldH d.p d.la 0).st, (ldH d.p d.la 0).mrk, acc, (chainS ((ldH d.p d.la 0).ep) ((ldH d.p d.la 0).cut) ((ringB d (((d.la.length : Nat) : Int) - 2) (ldH d.p d.la 0).st).length + 1) (ringB d (((d.la.length : Nat) : Int) - 2) (ldH d.p d.la 0).st) ((ldH d.p d.la 0).st) (-1)).2, ((((chainS ((ldH d.p d.la 0).ep) ((ldH d.p d.la 0).cut) ((ringB d (((d.la.length : Nat) : Int) - 2) (ldH d.p d.la 0).st).length + 1) (ringB d (((d.la.length : Nat) : Int) - 2) (ldH d.p d.la 0).st) ((ldH d.p d.la 0).st) (-1)).1).length : Nat) : Int), 0, false, 0⟩ : StmS) := StmAt.mk (v := (⟨(ldH d.p d.la 0).seq, (ldH d.p d.la 0).ep, (ldH d.p d.la 0).cut, (ldH d.p d.la 0).st, (ldH d.p d.la 0).mrk, acc, (chainS ((ldH d.p d.la 0).ep) ((ldH d.p d.la 0).cut) ((ringB d (((d.la.length : Nat) : Int) - 2) (ldH d.p d.la 0).st).length + 1) (ringB d (((d.la.length : Nat) : Int) - 2) (ldH d.p d.la 0).st) ((ldH d.p d.la 0).st) (-1)).2, ((((chainS ((ldH d.p d.la 0).ep) ((ldH d.p d.la 0).cut) ((ringB d (((d.la.length : Nat) : Int) - 2) (ldH d.p d.la 0).st).length + 1) (ringB d (((d.la.length : Nat) : Int) - 2) (ldH d.p d.la 0).st) ((ldH d.p d.la 0).st) (-1)).1).length : Nat) : Int), 0, false, 0⟩ : StmS)) (.inl hoa)
       have hH101 := (((((hH99.front 6 rfl).front 4 rfl).front 4 rfl).front 5 rfl).front 4 rfl).first 5 rfl
       have ho_ : opE d (((d.la.length : Nat) : Int) - 2) = 0 := opE_ok (Classical.not_not.1 h21) (fun k_ => by rcases k_ with k_ | k_ | k_; exact h46 k_; exact h49 k_; exact h52 k_)
       have hac2_ : acc = ((chainS ((ldH d.p d.la 0).ep) ((ldH d.p d.la 0).cut) ((ringB d (((d.la.length : Nat) : Int) - 2) (ldH d.p d.la 0).st).length + 1) (ringB d (((d.la.length : Nat) : Int) - 2) (ldH d.p d.la 0).st) ((ldH d.p d.la 0).st) (-1)).1).map entF := by rw [hac, List.take_of_length_le (by omega)]
       subst hac2_
       exact .inl ⟨ho_, _, _, _, _, rfl, hd, hd100, hH101⟩
theorem sopen_ok {E w : World} {R sg : List Hp} {pb db : Nat} {d : Dv} (hH : Has E w [sg, (yP pb d.p), R]) (hd : DevAt pb sg db d.la d.lo) (h4 : d.la.length ≤ 4096) (h3 : 3 ≤ d.la.length) (hon : d.p.off = false) (h64 : Full64 d.la) (hlo : d.lo = []) (hg : CellsAt R 0 0 nibV) (hm : opE d (((d.la.length : Nat) : Int) - 2) = 0) :
  Calls Tryz.prog 16 #[.pointer (some ⟨db, 0, none⟩)] w fun e w' => ∃ sb ab sg' ss, e = .returned (.tuple #[.pointer (some ⟨sb, 0, none⟩), .int .i64 0]) ∧ DevAt pb sg' db d.la d.lo ∧ StmAt db ab sb ss (opS d (((d.la.length : Nat) : Int) - 2)) ∧ Has E w' [ss, (yo ab #[(yp db), (yi 2), (yi (((d.la.length : Nat) : Int) - 2))] 265), sg', (yP pb d.p), R] :=
 (sopen_any hH hd h4 h3 hon h64 hlo hg).mono fun e w' h => h.elim (fun g => g.2) (fun g => absurd hm g.1)
end Go.Q
namespace Go.Q
open Go.Proofs
set_option linter.unusedVariables false
set_option maxRecDepth 100000
attribute [local irreducible] wpList OK Code.wp
theorem sflush_c {E w : World} {R sg ss : List Hp} {pb sb db ab : Nat} {d : Dv} {v : StmS} {n : Int} (hH : Has E w [sg, (yP pb d.p), (yo ab #[(yp db), (yi 2), (yi n)] 265), ss, R]) (hd : DevAt pb sg db d.la d.lo) (hs : StmAt db ab sb ss v) {k : Nat} (hf : Few d.p k) (hk : k ≤ 390000) (hlk : LoOk d.lo d.la.length) (h4 : d.la.length ≤ 4096) (h64 : Full64 d.la) (hln : (d.la.length : Int) = n + 2) (hok : StmOk n v) (hg : CellsAt R 0 0 nibV) {mark : Int} :
  Calls Tryz.prog 23 #[(yp sb), (yi mark)] w fun e w' => ∃ sg' ss', e = .returned (yi (flS n d v mark).1) ∧ DevAt pb sg' db (flS n d v mark).2.1.la (flS n d v mark).2.1.lo ∧ StmAt db ab sb ss' (flS n d v mark).2.2 ∧ Has E w' [sg', (yP pb ((flS n d v mark).2.1).p), (yo ab #[(yp db), (yi 2), (yi n)] 265), ss', R] := by
 obtain ⟨hle1_, hle2_⟩ := hok.le
 obtain ⟨hn1_, hn2_⟩ := hok.num
 obtain ⟨hm1_, hm2_⟩ := hok.mrk
 obtain ⟨hs1_, hs2_⟩ := hok.st
 have ht_ := hok.tail
 obtain ⟨hr1_, hr2_⟩ := hok.res
 obtain ⟨hf1_, hf2_⟩ := hok.fl
 obtain ⟨hla1_, hla2_, hla3_⟩ := last_le hok
 have hfv_ : freeV n v = n * 64 - (v.tail - v.st) - v.res := rfl
 have hdl_ : (v.l.drop v.flushed.toNat).length = v.l.length - v.flushed.toNat := List.length_drop
 refine zs (args := [(yp sb), (yi mark)]) Tryz.func23 rfl Tryz.ntmps23 (by simp) (yq fun K1 hK1 => (zd (za (zc (yi 0) rfl (zf (ze (hK1 _ _ (yq fun K2 hK2 => (yq fun K3 hK3 => (zd (za (zb (yp sb) rfl (za (zk (vs := #[(yp sb)]) ca106 rfl (zI rfl) (sready_c (v := v) (db := db) (ab := ab) hH.all (hs.rd.mono (zh 3 rfl))) ?_))))))))))))))
 rintro _ w6 ⟨rfl, hX4⟩
 refine ⟨_, rfl, ?_⟩
 have hH5 := hX4.of_all
 refine za (zc (yi (readyE v)) rfl (zf (ze (hK3 _ _ (yq fun K7 hK7 => (zd (za (zb (yi (readyE v)) rfl (za (o_neq (a := (readyE v)) (b := 0) rfl rfl (zf (ze (hK7 _ _ (zt rfl (fun h8 => ?_) (fun h8 => ?_)))))))))))))))
 ·
  refine yq fun K9 hK9 => (zd (za (zb (yi (readyE v)) rfl (za (zc (yi (readyE v)) rfl (zf (ze (hK9 _ _ (wp_ret (zx (zr Tryz.results23  (v := (yi (readyE v))) rfl ?_)))))))))))
  have hE_ : (flS n d v mark) = ((readyE v), d, v) := by
   exact if_pos h8
  exact ⟨_, _, by rw [hE_], by rw [hE_]; exact hd, by rw [hE_]; exact hs, by rw [hE_]; exact hH5⟩
 ·
  refine wp_skip (ze (hK2 _ _ (yq fun K10 hK10 => (yq fun K11 hK11 => (zd (za (zb (yi mark) rfl (za (zb (yp sb) rfl (za (zk (vs := #[(yp sb)]) ca29 rfl (zI rfl) (slast_c (v := v) (db := db) (ab := ab) (n := n) hH5.all (hs.rd.mono (zh 3 rfl)) hok) ?_)))))))))))
  rintro _ w14 ⟨rfl, hX12⟩
  refine ⟨_, rfl, ?_⟩
  have hH13 := hX12.of_all
  refine za (zL (a := mark) (b := (lastV v)) rfl rfl (za (zb (.bool (decide (mark < (lastV v)))) rfl ?_)))
  by_cases h15 : mark < (lastV v)
  ·
   refine zi (b' := true) 21 rfl (cT h15) rfl (zi (b' := true) 21 rfl (cT h15) rfl (za (zq (u := (.bool true)) ((rfl : _ = _).trans (cT h15)) rfl (zf (ze (hK11 _ _ (zP rfl rfl (yq fun K16 hK16 => (zd (za (zc (yi 1) rfl (zf (ze (hK16 _ _ (wp_ret (zx (zr Tryz.results23  (v := (yi 1)) rfl ?_)))))))))))))))))
   have hE_ : (flS n d v mark) = (1, d, v) := by
    exact (if_neg h8).trans (if_pos (by omega))
   exact ⟨_, _, by rw [hE_], by rw [hE_]; exact hd, by rw [hE_]; exact hs, by rw [hE_]; exact hH13⟩
  ·
   refine zo 21 rfl (cF h15) (zb (yi mark) rfl (zo 21 rfl (cF h15) (o_gtr (a := mark) (b := 4611686018427387903) rfl rfl (za (zm (u := (.bool (decide (4611686018427387903 < mark)))) ((rfl : _ = _).trans (cF h15)) rfl (zf (ze (hK11 _ _ (zt rfl (fun h17 => ?_) (fun h17 => ?_))))))))))
   ·
    refine yq fun K18 hK18 => (zd (za (zc (yi 1) rfl (zf (ze (hK18 _ _ (wp_ret (zx (zr Tryz.results23  (v := (yi 1)) rfl ?_)))))))))
    have hE_ : (flS n d v mark) = (1, d, v) := by
     exact (if_neg h8).trans (if_pos (by omega))
    exact ⟨_, _, by rw [hE_], by rw [hE_]; exact hd, by rw [hE_]; exact hs, by rw [hE_]; exact hH13⟩
   ·
    refine wp_skip (ze (hK10 _ _ (yq fun K19 hK19 => (yq fun K20 hK20 => (zd (za (zb (yp sb) rfl (za (zk (vs := #[(yp sb)]) ca37 rfl (zI rfl) (sloose_c (v := v) (db := db) (ab := ab) (n := n) hH13.all (hs.rd.mono (zh 3 rfl)) hok) ?_)))))))))
    rintro _ w23 ⟨rfl, hX21⟩
    refine ⟨_, rfl, ?_⟩
    have hH22 := hX21.of_all
    refine za (o_gtr (a := ((v.l.length : Int) - v.flushed)) (b := 0) rfl rfl (zf (ze (hK20 _ _ (zt rfl (fun h24 => ?_) (fun h24 => ?_))))))
    ·
     refine yq fun K25 hK25 => (zd (za (zc (.slice none 0 0) rfl (zf (ze (hK25 _ _ (yq fun K26 hK26 => (yq fun K27 hK27 => (Rest.region mixed (by kernel_rfl) ?_)))))))))
     have hH28 : Has E { w23 with drawn := w23.drawn + 1 } [sg, (yP pb d.p), (yo ab #[(yp db), (yi 2), (yi n)] 265), ss, R] := Has0.drew hH22 _
     obtain ⟨x29, s30, rfl, f31⟩ := hs
     have hH32 : Has E { w23 with drawn := w23.drawn + 1 } [(yS sb v db ab x29), s30, sg, (yP pb d.p), (yo ab #[(yp db), (yi 2), (yi n)] 265), R] := Has.op2 (hH28.front 3 rfl)
     refine Rest.phaseA (fun w_ => Has E w_ [(yS sb v db ab x29)]) 0 11 11 rfl (by decide) (by kernel_rfl) (zn 0 rfl (by kernel_rfl) (fun w_ h_ => zb (yp sb) rfl ⟨rfl, rfl⟩) (zn 1 rfl (by kernel_rfl) (fun w_ h_ => zl rfl ⟨rfl, rfl⟩) (zn 2 rfl (by kernel_rfl) (fun w_ h_ => zg (k := 7) (fun _ => by kernel_rfl) rfl ⟨rfl, rfl⟩) (zn 3 rfl (by kernel_rfl) (fun w_ h_ => zj (v := x29) Tryz.underlying37 rfl rfl h_ (zh 0 rfl) (CellsAt.one rfl) ⟨rfl, rfl⟩) (zn 4 rfl (by kernel_rfl) (fun w_ h_ => zb (yp sb) rfl ⟨rfl, rfl⟩) (zn 5 rfl (by kernel_rfl) (fun w_ h_ => zl rfl ⟨rfl, rfl⟩) (zn 6 rfl (by kernel_rfl) (fun w_ h_ => zg (k := 9) (fun _ => by kernel_rfl) rfl ⟨rfl, rfl⟩) (zn 7 rfl (by kernel_rfl) (fun w_ h_ => zj (v := (yi v.flushed)) Tryz.underlying3 rfl rfl h_ (zh 0 rfl) (CellsAt.one rfl) ⟨rfl, rfl⟩) (zn 10 rfl (by kernel_rfl) (fun w_ h_ => zb (yi 0) rfl ⟨rfl, rfl⟩) ?_)))))))))
     have hH33 := hH32.first 1 rfl
     refine a_w 8 rfl (by kernel_rfl) hH33 (o_sl_l Tryz.underlying37 ti42 rfl f31.sl rfl (by omega) (by omega) fun v34 hv35 => ?_)
     have hv36 := sl_dropF enC_len hv35
     refine zn 9 rfl (by kernel_rfl) (fun w_ h_ => zQ Tryz.underlying37 rfl hv36 ⟨rfl, rfl⟩) ?_
     have hH37 := hH32.first 1 rfl
     refine zM (by kernel_rfl) hH37 (Rest.done (by kernel_rfl) (ze (hK27 _ _ (wp_block ?_))))
     let I39 : Nat → (Nat → Value) → World → Prop := fun n__ r__ w__ => ∃ (j : Nat) (va : Value) (ha : List Hp) (acc : List Bs), n__ = (v.l.drop (v.flushed).toNat).length - j ∧ Has E w__ [ha, (yS sb v db ab x29), s30, sg, (yP pb d.p), (yo ab #[(yp db), (yi 2), (yi n)] 265), R] ∧ (j ≤ (v.l.drop (v.flushed).toNat).length) ∧ (Own 9 1 va acc.length (acc.map sV) ha) ∧ (acc = layB v.ep ((v.l.drop (v.flushed).toNat).take j)) ∧ (acc.flatten.length ≤ 225 * j) ∧ r__ 0 = (yp sb) ∧ r__ 1 = (yi mark) ∧ r__ 4 = (yi 0) ∧ r__ 5 = (yi (readyE v)) ∧ r__ 6 = va ∧ r__ 15 = (.bool (decide ((readyE v) ≠ 0))) ∧ r__ 24 = (.bool (decide (4611686018427387903 < mark))) ∧ r__ 27 = (.bool (decide (0 < ((v.l.length : Int) - v.flushed)))) ∧ r__ 36 = v34 ∧ r__ 37 = (yi (((v.l.drop (v.flushed).toNat).length : Nat) : Int)) ∧ r__ 38 = (yi (j : Int))
     have hH40 : Has E { w23 with drawn := w23.drawn + 1 } [[], (yS sb v db ab x29), s30, sg, (yP pb d.p), (yo ab #[(yp db), (yi 2), (yi n)] 265), R] := Has.pick (Has.nil hH32) [0, 0, 0, 0, 0, 0, 0] (by kernel_rfl)
     refine zX I39 _ ⟨0, (.slice none 0 0), [], ([] : List Bs), rfl, hH40, Nat.zero_le _, Own.nil 9 1, rfl, (by simp), rfl, rfl, rfl, rfl, rfl, rfl, rfl, rfl, rfl, rfl, rfl⟩ ?_
     rintro n_ r43 w41 ⟨j, va, ha, acc, rfl, hH42, hj, hoa, hac, haf, e38_0, e38_1, e38_4, e38_5, e38_6, e38_15, e38_24, e38_27, e38_36, e38_37, e38_38⟩
     refine yq fun K44 hK44 => (zd (za (zL (a := (j : Int)) (b := (((v.l.drop (v.flushed).toNat).length : Nat) : Int)) e38_38 e38_37 (zf (ze (hK44 _ _ (yq fun K45 hK45 => (zt rfl (fun h46 => ?_) (fun h46 => ?_)))))))))
     ·
      refine wp_skip (ze (hK45 _ _ (yq fun K47 hK47 => (wp_block (yq fun K48 hK48 => (zd ?_))))))
      obtain ⟨x52, hx53⟩ : ∃ x_, (v.l.drop (v.flushed).toNat)[((j : Int)).toNat]? = some x_ := zN (by omega)
      refine za (o_indexF enC_len Tryz.underlying37 ti42 e38_36 hv36 rfl e38_38 (by omega) hx53 fun b49 o50 hc51 => (za (zG (cs := [(yi x52.gsn), (yi x52.at_), (S x52.data)]) Tryz.underlying42 rfl ti42 rfl hH42 (zh 2 rfl) hc51 (za (zU (cs := #[(yi 0), (yi 0), (S ([] : List UInt8))]) ti42 rfl hH42 fun b54 w55 hH56 => (zB (zv (vs := [(yi x52.gsn), (yi x52.at_), (S x52.data)]) (c' := #[(yi x52.gsn), (yi x52.at_), (S x52.data)]) ti42 rfl rfl rfl rfl (by intro u hu; simp only [List.mem_cons, List.not_mem_nil, or_false] at hu; rcases hu with rfl | rfl | rfl <;> first | rfl) (by simp) (by kernel_rfl) (hH56.front 0 rfl) fun w57 hH58 => (zf (ze (hK48 _ _ (Rest.region mixed (by kernel_rfl) ?_)))))))))))
      have hH59 : Has E { w57 with drawn := w57.drawn + 1 } [(yo b54 #[(yi x52.gsn), (yi x52.at_), (S x52.data)] 42), ha, (yS sb v db ab x29), s30, sg, (yP pb d.p), (yo ab #[(yp db), (yi 2), (yi n)] 265), R] := Has0.drew hH58 _
      refine Rest.phaseA (fun w_ => Has E w_ [(yo b54 #[(yi x52.gsn), (yi x52.at_), (S x52.data)] 42), (yS sb v db ab x29)]) 0 16 16 rfl (by decide) (by kernel_rfl) (zn 0 rfl (by kernel_rfl) (fun w_ h_ => zb va e38_6 ⟨rfl, rfl⟩) (zn 1 rfl (by kernel_rfl) (fun w_ h_ => zb (yp sb) e38_0 ⟨rfl, rfl⟩) (zn 2 rfl (by kernel_rfl) (fun w_ h_ => zl rfl ⟨rfl, rfl⟩) (zn 3 rfl (by kernel_rfl) (fun w_ h_ => zg (k := 0) (fun _ => by kernel_rfl) rfl ⟨rfl, rfl⟩) (zn 4 rfl (by kernel_rfl) (fun w_ h_ => zg (k := 0) (fun _ => by kernel_rfl) rfl ⟨rfl, rfl⟩) (zn 5 rfl (by kernel_rfl) (fun w_ h_ => zg (k := 1) (fun _ => by kernel_rfl) rfl ⟨rfl, rfl⟩) (zn 6 rfl (by kernel_rfl) (fun w_ h_ => zj (v := (yi v.ep)) Tryz.underlying3 rfl rfl h_ (zh 1 rfl) (CellsAt.one rfl) ⟨rfl, rfl⟩) (zn 7 rfl (by kernel_rfl) (fun w_ h_ => zg (k := 1) (fun _ => by kernel_rfl) rfl ⟨rfl, rfl⟩) (zn 8 rfl (by kernel_rfl) (fun w_ h_ => zj (v := (yi x52.at_)) Tryz.underlying3 rfl rfl h_ (zh 0 rfl) (CellsAt.one rfl) ⟨rfl, rfl⟩) (zn 9 rfl (by kernel_rfl) (fun w_ h_ => zg (k := 0) (fun _ => by kernel_rfl) rfl ⟨rfl, rfl⟩) (zn 10 rfl (by kernel_rfl) (fun w_ h_ => zj (v := (yi x52.gsn)) Tryz.underlying3 rfl rfl h_ (zh 0 rfl) (CellsAt.one rfl) ⟨rfl, rfl⟩) (zn 11 rfl (by kernel_rfl) (fun w_ h_ => zg (k := 2) (fun _ => by kernel_rfl) rfl ⟨rfl, rfl⟩) (zn 12 rfl (by kernel_rfl) (fun w_ h_ => zj (v := (S x52.data)) Tryz.underlying9 rfl rfl h_ (zh 0 rfl) (CellsAt.one rfl) ⟨rfl, rfl⟩) (zn 13 rfl (by kernel_rfl) (fun w_ h_ => zJ (v := (.agg #[(yi v.ep), (yi x52.at_), (yi x52.gsn), (S x52.data)])) (fun _ => by kernel_rfl) ⟨rfl, rfl⟩) ?_))))))))))))))
      have hH60 := ((hH59.front 2 rfl).front 1 rfl).first 2 rfl
      refine a_w 14 rfl (by kernel_rfl) hH60 (zk (vs := #[(.agg #[(yi v.ep), (yi x52.at_), (yi x52.gsn), (S x52.data)]), (.slice none 0 0)]) ca107 rfl (zF rfl rfl) (make1_c hH59.all (hg.mono (zh 7 rfl)) (Fr.mk v.ep x52.at_ x52.gsn x52.data) (by have h_ := hok.dat _ (List.mem_of_mem_drop (List.mem_of_getElem? hx53)); show (x52.data).length ≤ _; omega)) ?_)
      rintro _ w63 ⟨rfl, hX61⟩
      refine ⟨_, rfl, ?_⟩
      have hH62 := hX61.of_all
      have hH64 := ((hH62.front 2 rfl).front 1 rfl).first 2 rfl
      refine a_w 15 rfl (by kernel_rfl) hH64 (zw (ps := #[(0, (S (makeS (Fr.mk v.ep x52.at_ x52.gsn x52.data))))]) (cells := #[(S (makeS (Fr.mk v.ep x52.at_ x52.gsn x52.data)))]) Tryz.underlying46 ti9 (by decide) (yb rfl) (by kernel_rfl) hH62 fun b65 w66 hH67 => ?_)
      have hH68 := ((hH67.front 3 rfl).front 2 rfl).first 2 rfl
      refine zM (by kernel_rfl) hH68 (zO 16 rfl (by kernel_rfl) (o_append Tryz.underlying46 ti9 rfl (by decide) rfl hoa rfl (zW (f := sV) (l := [(makeS (Fr.mk v.ep x52.at_ x52.gsn x52.data))]) rfl rfl (by simp)) (hH67.front 2 rfl) (zh 0 rfl) (one_sV _) (by simp only [List.length_cons, List.length_nil]; have := congrArg List.length hac; rw [layB_len, List.length_take, List.length_drop] at this; omega) (by simp only [List.length_cons, List.length_nil]; have := congrArg List.length hac; rw [layB_len, List.length_take, List.length_drop] at this; omega) fun v69 s70 w72 ho71 hH73 => ?_))
      have ho71 : Own 9 1 v69 (acc ++ [(makeS (Fr.mk v.ep x52.at_ x52.gsn x52.data))]).length ((acc ++ [(makeS (Fr.mk v.ep x52.at_ x52.gsn x52.data))]).map sV) s70 := ho71.app
      refine zO 17 rfl (by kernel_rfl) (zc v69 rfl (Rest.done (by kernel_rfl) (zC (ze (hK47 _ _ (zd (za (zD (a := (j : Int)) (b := 1) e38_38 rfl (w64 (by omega) (by omega)) (za (zb (yi ((j : Int) + 1)) rfl (zf ?_)))))))))))
      have hH74 : Has E w72 [s70, (yS sb v db ab x29), s30, sg, (yP pb d.p), (yo ab #[(yp db), (yi 2), (yi n)] 265), R] := Has.pick hH73 [0, 2, 2, 2, 2, 2, 2] (by kernel_rfl)
      refine ze ⟨(v.l.drop (v.flushed).toNat).length - (j + 1), _, rfl, ?_, ?_⟩
      · omega
      · exact ⟨(j + 1), v69, s70, (acc ++ [(makeS (Fr.mk v.ep x52.at_ x52.gsn x52.data))]), rfl, hH74, (by omega), (ho71), (by rw [zS (show (v.l.drop (v.flushed).toNat)[j]? = some _ from hx53), layB_snoc, ← hac]; rfl), (by rw [List.flatten_append, List.length_append]; have h_ := make_le (frOf v.ep x52); simp only [List.flatten_cons, List.flatten_nil, List.append_nil]; unfold frOf at h_; omega), e38_0, e38_1, e38_4, e38_5, rfl, e38_15, e38_24, e38_27, e38_36, e38_37, rfl⟩
     ·
      refine wp_exit (zy (zy (x_in ((ze (hK26 _ _ (yq fun K75 hK75 => (yq fun K76 hK76 => (Rest.region mixed (by kernel_rfl) ?_)))))))))
      have hH77 : Has E { w41 with drawn := w41.drawn + 1 } [ha, (yS sb v db ab x29), s30, sg, (yP pb d.p), (yo ab #[(yp db), (yi 2), (yi n)] 265), R] := Has0.drew hH42 _
      refine Rest.phaseA (fun w_ => Has E w_ [(yS sb v db ab x29), s30]) 0 16 16 rfl (by decide) (by kernel_rfl) (zn 0 rfl (by kernel_rfl) (fun w_ h_ => zb (yp sb) e38_0 ⟨rfl, rfl⟩) (zn 1 rfl (by kernel_rfl) (fun w_ h_ => zl rfl ⟨rfl, rfl⟩) (zn 2 rfl (by kernel_rfl) (fun w_ h_ => zg (k := 6) (fun _ => by kernel_rfl) rfl ⟨rfl, rfl⟩) (zn 3 rfl (by kernel_rfl) (fun w_ h_ => zj (v := (yp ab)) Tryz.underlying160 rfl rfl h_ (zh 0 rfl) (CellsAt.one rfl) ⟨rfl, rfl⟩) (zn 4 rfl (by kernel_rfl) (fun w_ h_ => zb (yp sb) e38_0 ⟨rfl, rfl⟩) (zn 5 rfl (by kernel_rfl) (fun w_ h_ => zl rfl ⟨rfl, rfl⟩) (zn 6 rfl (by kernel_rfl) (fun w_ h_ => zg (k := 7) (fun _ => by kernel_rfl) rfl ⟨rfl, rfl⟩) (zn 7 rfl (by kernel_rfl) (fun w_ h_ => zj (v := x29) Tryz.underlying37 rfl rfl h_ (zh 0 rfl) (CellsAt.one rfl) ⟨rfl, rfl⟩) (zn 8 rfl (by kernel_rfl) (fun w_ h_ => zb (yp sb) e38_0 ⟨rfl, rfl⟩) (zn 9 rfl (by kernel_rfl) (fun w_ h_ => zl rfl ⟨rfl, rfl⟩) (zn 10 rfl (by kernel_rfl) (fun w_ h_ => zg (k := 9) (fun _ => by kernel_rfl) rfl ⟨rfl, rfl⟩) (zn 11 rfl (by kernel_rfl) (fun w_ h_ => zj (v := (yi v.flushed)) Tryz.underlying3 rfl rfl h_ (zh 0 rfl) (CellsAt.one rfl) ⟨rfl, rfl⟩) ?_))))))))))))
      obtain ⟨x81, hx82⟩ : ∃ x_, v.l[(v.flushed).toNat]? = some x_ := zN (by omega)
      obtain ⟨b78, o79, hc80, ho83⟩ := ix_exF enC_len Tryz.underlying37 ti42 f31.sl (by omega) hx82
      refine zn 12 rfl (by kernel_rfl) (fun w_ h_ => ho83 rfl rfl ⟨rfl, rfl⟩) (zn 13 rfl (by kernel_rfl) (fun w_ h_ => zg (k := o79 + 1) (fun _ => by kernel_rfl) rfl ⟨rfl, rfl⟩) (zn 14 rfl (by kernel_rfl) (fun w_ h_ => zj (v := (yi x81.at_)) Tryz.underlying3 rfl rfl h_ (zh 1 rfl) (CellsAt.field (k := 1) (ds := [(yi x81.at_)]) hc80 rfl) ⟨rfl, rfl⟩) (zn 15 rfl (by kernel_rfl) (fun w_ h_ => zb va e38_6 ⟨rfl, rfl⟩) ?_)))
      have hH84 := ((hH77.front 2 rfl).front 2 rfl).first 2 rfl
      refine zM (by kernel_rfl) hH84 (zO 16 rfl (by kernel_rfl) (zk (vs := #[(yp ab), (yi x81.at_), va]) ca108 rfl (args3 rfl rfl rfl) (dset_c (d := d) (fr := 2) (n := n) (((hH77.front 5 rfl).front 5 rfl).front 5 rfl).all3 hd hf (by omega) h4 (by first | exact h64 | (rw [setA_la]; exact h64)) hlk (by omega) (by omega) (by omega) (at_ := x81.at_) (data := acc) (hoa.sl.mono (zh 0 rfl)) (by have := congrArg List.length hac; rw [layB_len, List.length_take, List.length_drop] at this; omega) (by omega)) ?_))
      rintro _ w89 ⟨sg85, rfl, hd86, hX87⟩
      refine ⟨_, rfl, ?_⟩
      have hH88 : Has E w89 [sg85, (yP pb ((setA d 2 n x81.at_ acc.flatten).2).p), (yo ab #[(yp db), (yi 2), (yi n)] 265), ha, (yS sb v db ab x29), s30, R] := hX87.of_all3
      refine zO 17 rfl (by kernel_rfl) (zc (yi ((setA d 2 n x81.at_ acc.flatten).1)) rfl (Rest.done (by kernel_rfl) (ze (hK76 _ _ (yq fun K90 hK90 => (zd (za (zb (yi ((setA d 2 n x81.at_ acc.flatten).1)) rfl (za (o_neq (a := (setA d 2 n x81.at_ acc.flatten).1) (b := 0) rfl rfl (zf (ze (hK90 _ _ (zt rfl (fun h91 => ?_) (fun h91 => ?_)))))))))))))))
      ·
       refine yq fun K92 hK92 => (zd (za (zb (yp sb) e38_0 (za (zb (yi ((setA d 2 n x81.at_ acc.flatten).1)) rfl ?_)))))
       have hH93 := Has.cl2 ((hH88.front 5 rfl).front 5 rfl)
       have hd94 : StmAt db ab sb ((yS sb v db ab x29) ++ s30) v := StmAt.mk (v := v) f31
       refine za (zk (vs := #[(yp sb), (yi ((setA d 2 n x81.at_ acc.flatten).1))]) ca109 rfl (zF rfl rfl) (sstays_c (db := db) (ab := ab) (v := v) (e_ := (setA d 2 n x81.at_ acc.flatten).1) hH93.all1 hd94) ?_)
       rintro _ w99 ⟨sg95, rfl, hd96, hX97⟩
       refine ⟨_, rfl, ?_⟩
       have hH98 := hX97.of_all1
       refine za (zc (yi ((setA d 2 n x81.at_ acc.flatten).1)) rfl (zf (ze (hK92 _ _ (wp_ret (zx (zx (zr Tryz.results23  (v := (yi ((setA d 2 n x81.at_ acc.flatten).1))) rfl ?_))))))))
       have hH100 := (((((hH98.front 5 rfl).front 1 rfl).front 4 rfl).front 4 rfl).front 4 rfl).first 5 rfl
       have hE_ : (flS n d v mark) = (((setA d 2 n x81.at_ acc.flatten).1), (setA d 2 n x81.at_ acc.flatten).2, (stays v ((setA d 2 n x81.at_ acc.flatten).1))) := by
        rw [flS_go (Classical.not_not.1 h8) (by omega)]; rw [flL_some hx82]; have ha2_ : acc = layB v.ep (v.l.drop (v.flushed).toNat) := by rw [hac, List.take_of_length_le (by omega)]
        rw [← ha2_]; rw [fl1_set h91]; exact fl2_err h91
       exact ⟨_, _, by rw [hE_], by rw [hE_]; exact hd86, by rw [hE_]; exact hd96, by rw [hE_]; exact hH100⟩
      ·
       refine wp_skip (ze (hK75 _ _ (yq fun K101 hK101 => (yq fun K102 hK102 => (zd (za (zb (yp sb) e38_0 (za (zl rfl (za (zg (k := 5) (fun _ => by kernel_rfl) rfl (za (zj (v := (yp db)) Tryz.underlying25 rfl rfl hH88 (zh 4 rfl) (CellsAt.one rfl) (za (zk (vs := #[(yp db)]) ca32 rfl (zI rfl) (dv_syN (d := (setA d 2 n x81.at_ acc.flatten).2) ((hH88.front 1 rfl).front 1 rfl).all2 hd86 ((few_setA hf (by omega)).ok (by omega)) (by simp only [syN_len, svD_len, setA_la, saveS_len, flL_len, dvwr_len]; exact h4) (setA_lk hlk)) ?_)))))))))))))))
       rintro _ w107 ⟨sg103, rfl, hd104, hX105⟩
       refine ⟨_, rfl, ?_⟩
       have hH106 : Has E w107 [sg103, (yP pb (((setA d 2 n x81.at_ acc.flatten).2).syN).p), (yo ab #[(yp db), (yi 2), (yi n)] 265), ha, (yS sb v db ab x29), s30, R] := hX105.of_all2
       refine za (zc (yi (((setA d 2 n x81.at_ acc.flatten).2).syE)) rfl (zf (ze (hK102 _ _ (yq fun K108 hK108 => (zd (za (zb (yi (((setA d 2 n x81.at_ acc.flatten).2).syE)) rfl (za (o_neq (a := ((setA d 2 n x81.at_ acc.flatten).2).syE) (b := 0) rfl rfl (zf (ze (hK108 _ _ (zt rfl (fun h109 => ?_) (fun h109 => ?_)))))))))))))))
       ·
        refine yq fun K110 hK110 => (zd (za (zb (yp sb) e38_0 (za (zb (yi (((setA d 2 n x81.at_ acc.flatten).2).syE)) rfl ?_)))))
        have hH111 := Has.cl2 ((hH106.front 5 rfl).front 5 rfl)
        have hd112 : StmAt db ab sb ((yS sb v db ab x29) ++ s30) v := StmAt.mk (v := v) f31
        refine za (zk (vs := #[(yp sb), (yi (((setA d 2 n x81.at_ acc.flatten).2).syE))]) ca109 rfl (zF rfl rfl) (sstays_c (db := db) (ab := ab) (v := v) (e_ := ((setA d 2 n x81.at_ acc.flatten).2).syE) hH111.all1 hd112) ?_)
        rintro _ w117 ⟨sg113, rfl, hd114, hX115⟩
        refine ⟨_, rfl, ?_⟩
        have hH116 := hX115.of_all1
        refine za (zc (yi (((setA d 2 n x81.at_ acc.flatten).2).syE)) rfl (zf (ze (hK110 _ _ (wp_ret (zx (zx (zr Tryz.results23  (v := (yi (((setA d 2 n x81.at_ acc.flatten).2).syE))) rfl ?_))))))))
        have hH118 := (((((hH116.front 5 rfl).front 1 rfl).front 4 rfl).front 4 rfl).front 4 rfl).first 5 rfl
        have hE_ : (flS n d v mark) = ((((setA d 2 n x81.at_ acc.flatten).2).syE), ((setA d 2 n x81.at_ acc.flatten).2).syN, (stays v (((setA d 2 n x81.at_ acc.flatten).2).syE))) := by
         rw [flS_go (Classical.not_not.1 h8) (by omega)]; rw [flL_some hx82]; have ha2_ : acc = layB v.ep (v.l.drop (v.flushed).toNat) := by rw [hac, List.take_of_length_le (by omega)]
         rw [← ha2_]; rw [fl1_sy (Classical.not_not.1 h91) h109]; exact fl2_err h109
        exact ⟨_, _, by rw [hE_], by rw [hE_]; exact hd104, by rw [hE_]; exact hd114, by rw [hE_]; exact hH118⟩
       ·
        refine wp_skip (ze (hK101 _ _ (zd (za (zb (yp sb) e38_0 (za (zb (yp sb) e38_0 (za (zl rfl (za (zg (k := 7) (fun _ => by kernel_rfl) rfl (za (zj (v := x29) Tryz.underlying37 rfl rfl hH106 (zh 4 rfl) (CellsAt.one rfl) (za (zQ Tryz.underlying37 rfl f31.sl (za (zl rfl (za (zg (k := 9) (fun _ => by kernel_rfl) rfl (zB (zH (c' := #[(yi v.seq), (yi v.ep), (yi v.hcut), (yi v.st), (yi v.mrk), (yp db), (yp ab), x29, (yi v.tail), (yi ((v.l.length : Nat) : Int)), (yi v.res), (.bool v.cut), (yi v.err)]) ti3 rfl rfl rfl (by simp) rfl (hH106.front 4 rfl) fun w119 hH120 => (zf (ze (hK19 _ _ (yq fun K121 hK121 => ?_)))))))))))))))))))))))))
        refine yq fun K122 hK122 => (zd (za (zb (yi mark) e38_1 (za (zb (yp sb) e38_0 (za (zl rfl (za (zg (k := 0) (fun _ => by kernel_rfl) rfl (za (zg (k := 0) (fun _ => by kernel_rfl) rfl (za (zg (k := 4) (fun _ => by kernel_rfl) rfl (za (zj (v := (yi v.mrk)) Tryz.underlying3 rfl rfl hH120 (zh 0 rfl) (CellsAt.one rfl) (za (yc (a := mark) (b := v.mrk) rfl rfl (zf (ze (hK122 _ _ (zt rfl (fun h123 => ?_) (fun h123 => ?_))))))))))))))))))))))
        ·
         refine yq fun K124 hK124 => (zd (za (zc (yi 0) rfl (zf (ze (hK124 _ _ (wp_ret (zx (zr Tryz.results23  (v := (yi 0)) rfl ?_)))))))))
         have hH125 := Has.cl2 ((hH120.front 5 rfl).front 1 rfl)
         have hd126 : StmAt db ab sb ((yo sb #[(yi v.seq), (yi v.ep), (yi v.hcut), (yi v.st), (yi v.mrk), (yp db), (yp ab), x29, (yi v.tail), (yi ((v.l.length : Nat) : Int)), (yi v.res), (.bool v.cut), (yi v.err)] 175) ++ s30) (⟨v.seq, v.ep, v.hcut, v.st, v.mrk, v.l, v.tail, ((v.l.length : Nat) : Int), v.res, v.cut, v.err⟩ : StmS) := StmAt.mk (v := (⟨v.seq, v.ep, v.hcut, v.st, v.mrk, v.l, v.tail, ((v.l.length : Nat) : Int), v.res, v.cut, v.err⟩ : StmS)) f31
         have hH127 := (((((hH125.front 5 rfl).front 1 rfl).front 4 rfl).front 4 rfl).front 4 rfl).first 5 rfl
         have hE_ : (flS n d v mark) = (0, ((setA d 2 n x81.at_ acc.flatten).2).syN, (⟨v.seq, v.ep, v.hcut, v.st, v.mrk, v.l, v.tail, ((v.l.length : Nat) : Int), v.res, v.cut, v.err⟩ : StmS)) := by
          rw [flS_go (Classical.not_not.1 h8) (by omega)]; rw [flL_some hx82]; have ha2_ : acc = layB v.ep (v.l.drop (v.flushed).toNat) := by rw [hac, List.take_of_length_le (by omega)]
          rw [← ha2_]; rw [fl1_ok (Classical.not_not.1 h91) (Classical.not_not.1 h109)]; exact fl2_same rfl h123
         exact ⟨_, _, by rw [hE_], by rw [hE_]; exact hd104, by rw [hE_]; exact hd126, by rw [hE_]; exact hH127⟩
        ·
         refine wp_skip (ze (hK121 _ _ (yq fun K128 hK128 => (zd (za (zb (yp sb) e38_0 (za (zl rfl (za (zg (k := 0) (fun _ => by kernel_rfl) rfl (za (zg (k := 0) (fun _ => by kernel_rfl) rfl (za (zG (cs := [(yi v.seq), (yi v.ep), (yi v.hcut), (yi v.st), (yi v.mrk)]) Tryz.underlying23 rfl zY rfl hH120 (zh 0 rfl) (CellsAt.one rfl) (za (zU (cs := y0A) zY rfl hH120 fun b129 w130 hH131 => (zB (zv (vs := [(yi v.seq), (yi v.ep), (yi v.hcut), (yi v.st), (yi v.mrk)]) (c' := #[(yi v.seq), (yi v.ep), (yi v.hcut), (yi v.st), (yi v.mrk)]) zY rfl rfl rfl rfl y5 (by simp) (by kernel_rfl) (hH131.front 0 rfl) fun w132 hH133 => (zf (ze (hK128 _ _ (yq fun K134 hK134 => (zd ?_)))))))))))))))))))))))
         refine za (zb (yi mark) e38_1 (za (zg (k := 4) (fun _ => by kernel_rfl) rfl (zB (zH (c' := #[(yi v.seq), (yi v.ep), (yi v.hcut), (yi v.st), (yi mark)]) ti3 rfl rfl rfl (by simp) rfl (hH133.front 0 rfl) fun w135 hH136 => (zf (ze (hK134 _ _ (yq fun K137 hK137 => (zd (za (zb (yp sb) e38_0 (za (zG (cs := [(yi v.seq), (yi v.ep), (yi v.hcut), (yi v.st), (yi mark)]) Tryz.underlying23 rfl zY rfl hH136 (zh 0 rfl) (CellsAt.one rfl) ?_))))))))))))))
         have hH138 := Has.cl2 ((hH136.front 6 rfl).front 2 rfl)
         have hd139 : StmAt db ab sb ((yo sb #[(yi v.seq), (yi v.ep), (yi v.hcut), (yi v.st), (yi v.mrk), (yp db), (yp ab), x29, (yi v.tail), (yi ((v.l.length : Nat) : Int)), (yi v.res), (.bool v.cut), (yi v.err)] 175) ++ s30) (⟨v.seq, v.ep, v.hcut, v.st, v.mrk, v.l, v.tail, ((v.l.length : Nat) : Int), v.res, v.cut, v.err⟩ : StmS) := StmAt.mk (v := (⟨v.seq, v.ep, v.hcut, v.st, v.mrk, v.l, v.tail, ((v.l.length : Nat) : Int), v.res, v.cut, v.err⟩ : StmS)) f31
         refine za (zk (vs := #[(yp sb), (.agg #[(yi v.seq), (yi v.ep), (yi v.hcut), (yi v.st), (yi mark)])]) ca110 rfl (zF rfl rfl) (ssave_c (d := ((setA d 2 n x81.at_ acc.flatten).2).syN) (v := (⟨v.seq, v.ep, v.hcut, v.st, v.mrk, v.l, v.tail, ((v.l.length : Nat) : Int), v.res, v.cut, v.err⟩ : StmS)) (((hH138.front 4 rfl).front 4 rfl).front 4 rfl).all4 hd104 hd139 (few_setA hf (by omega)).use (by omega) (syN_lo (setA_lk hlk)) (by simp only [syN_len, svD_len, setA_la, saveS_len, flL_len, dvwr_len]; exact h4) (hg.mono (zh 2 rfl)) (h := (Hd.mk v.seq v.ep v.hcut v.st mark))) ?_)
         rintro _ w146 ⟨sg140, ss142, rfl, hd141, hs143, hX144⟩
         refine ⟨_, rfl, ?_⟩
         have hH145 := hX144.of_all4
         refine za (zc (yi ((saveS (((setA d 2 n x81.at_ acc.flatten).2).syN) (⟨v.seq, v.ep, v.hcut, v.st, v.mrk, v.l, v.tail, ((v.l.length : Nat) : Int), v.res, v.cut, v.err⟩ : StmS) (Hd.mk v.seq v.ep v.hcut v.st mark)).1)) rfl (zf (ze (hK137 _ _ (wp_ret (zr Tryz.results23  (v := (yi ((saveS (((setA d 2 n x81.at_ acc.flatten).2).syN) (⟨v.seq, v.ep, v.hcut, v.st, v.mrk, v.l, v.tail, ((v.l.length : Nat) : Int), v.res, v.cut, v.err⟩ : StmS) (Hd.mk v.seq v.ep v.hcut v.st mark)).1))) rfl ?_))))))
         have hH147 := (((((hH145.front 6 rfl).front 4 rfl).front 4 rfl).front 4 rfl).front 4 rfl).first 5 rfl
         have hE_ : (flS n d v mark) = ((saveS (((setA d 2 n x81.at_ acc.flatten).2).syN) (⟨v.seq, v.ep, v.hcut, v.st, v.mrk, v.l, v.tail, ((v.l.length : Nat) : Int), v.res, v.cut, v.err⟩ : StmS) (Hd.mk v.seq v.ep v.hcut v.st mark)).1, (saveS (((setA d 2 n x81.at_ acc.flatten).2).syN) (⟨v.seq, v.ep, v.hcut, v.st, v.mrk, v.l, v.tail, ((v.l.length : Nat) : Int), v.res, v.cut, v.err⟩ : StmS) (Hd.mk v.seq v.ep v.hcut v.st mark)).2.1, (saveS (((setA d 2 n x81.at_ acc.flatten).2).syN) (⟨v.seq, v.ep, v.hcut, v.st, v.mrk, v.l, v.tail, ((v.l.length : Nat) : Int), v.res, v.cut, v.err⟩ : StmS) (Hd.mk v.seq v.ep v.hcut v.st mark)).2.2) := by
          rw [flS_go (Classical.not_not.1 h8) (by omega)]; rw [flL_some hx82]; have ha2_ : acc = layB v.ep (v.l.drop (v.flushed).toNat) := by rw [hac, List.take_of_length_le (by omega)]
          rw [← ha2_]; rw [fl1_ok (Classical.not_not.1 h91) (Classical.not_not.1 h109)]; exact fl2_save rfl h123
         exact ⟨_, _, by rw [hE_], by rw [hE_]; exact hd141, by rw [hE_]; exact hs143, by rw [hE_]; exact hH147⟩
    ·
     refine wp_skip (ze (hK19 _ _ (yq fun K148 hK148 => (yq fun K149 hK149 => (zd (za (zb (yi mark) rfl (za (zb (yp sb) rfl (za (zl rfl ?_)))))))))))
     obtain ⟨x150, s151, rfl, f152⟩ := hs
     have hH153 : Has E w23 [(yS sb v db ab x150), s151, sg, (yP pb d.p), (yo ab #[(yp db), (yi 2), (yi n)] 265), R] := Has.op2 (hH22.front 3 rfl)
     refine za (zg (k := 0) (fun _ => by kernel_rfl) rfl (za (zg (k := 0) (fun _ => by kernel_rfl) rfl (za (zg (k := 4) (fun _ => by kernel_rfl) rfl (za (zj (v := (yi v.mrk)) Tryz.underlying3 rfl rfl hH153 (zh 0 rfl) (CellsAt.one rfl) (za (yc (a := mark) (b := v.mrk) rfl rfl (zf (ze (hK149 _ _ (zt rfl (fun h154 => ?_) (fun h154 => ?_))))))))))))))
     ·
      refine yq fun K155 hK155 => (zd (za (zc (yi 0) rfl (zf (ze (hK155 _ _ (wp_ret (zx (zr Tryz.results23  (v := (yi 0)) rfl ?_)))))))))
      have hH156 := Has.cl2 ((hH153.front 1 rfl).front 1 rfl)
      have hd157 : StmAt db ab sb ((yS sb v db ab x150) ++ s151) v := StmAt.mk (v := v) f152
      have hH158 := (((((hH156.front 4 rfl).front 1 rfl).front 4 rfl).front 4 rfl).front 4 rfl).first 5 rfl
      have hE_ : (flS n d v mark) = (0, d, v) := by
       rw [flS_go (Classical.not_not.1 h8) (by omega)]; rw [flL_none (by omega)]; exact fl2_same rfl h154
      exact ⟨_, _, by rw [hE_], by rw [hE_]; exact hd, by rw [hE_]; exact hd157, by rw [hE_]; exact hH158⟩
     ·
      refine wp_skip (ze (hK148 _ _ (yq fun K159 hK159 => (zd (za (zb (yp sb) rfl (za (zl rfl (za (zg (k := 0) (fun _ => by kernel_rfl) rfl (za (zg (k := 0) (fun _ => by kernel_rfl) rfl (za (zG (cs := [(yi v.seq), (yi v.ep), (yi v.hcut), (yi v.st), (yi v.mrk)]) Tryz.underlying23 rfl zY rfl hH153 (zh 0 rfl) (CellsAt.one rfl) (za (zU (cs := y0A) zY rfl hH153 fun b160 w161 hH162 => (zB (zv (vs := [(yi v.seq), (yi v.ep), (yi v.hcut), (yi v.st), (yi v.mrk)]) (c' := #[(yi v.seq), (yi v.ep), (yi v.hcut), (yi v.st), (yi v.mrk)]) zY rfl rfl rfl rfl y5 (by simp) (by kernel_rfl) (hH162.front 0 rfl) fun w163 hH164 => (zf (ze (hK159 _ _ (yq fun K165 hK165 => (zd ?_)))))))))))))))))))))))
      refine za (zb (yi mark) rfl (za (zg (k := 4) (fun _ => by kernel_rfl) rfl (zB (zH (c' := #[(yi v.seq), (yi v.ep), (yi v.hcut), (yi v.st), (yi mark)]) ti3 rfl rfl rfl (by simp) rfl (hH164.front 0 rfl) fun w166 hH167 => (zf (ze (hK165 _ _ (yq fun K168 hK168 => (zd (za (zb (yp sb) rfl (za (zG (cs := [(yi v.seq), (yi v.ep), (yi v.hcut), (yi v.st), (yi mark)]) Tryz.underlying23 rfl zY rfl hH167 (zh 0 rfl) (CellsAt.one rfl) ?_))))))))))))))
      have hH169 := Has.cl2 ((hH167.front 2 rfl).front 2 rfl)
      have hd170 : StmAt db ab sb ((yS sb v db ab x150) ++ s151) v := StmAt.mk (v := v) f152
      refine za (zk (vs := #[(yp sb), (.agg #[(yi v.seq), (yi v.ep), (yi v.hcut), (yi v.st), (yi mark)])]) ca110 rfl (zF rfl rfl) (ssave_c (d := d) (v := v) (((hH169.front 4 rfl).front 4 rfl).front 4 rfl).all4 hd hd170 hf (by omega) hlk h4 (hg.mono (zh 1 rfl)) (h := (Hd.mk v.seq v.ep v.hcut v.st mark))) ?_)
      rintro _ w177 ⟨sg171, ss173, rfl, hd172, hs174, hX175⟩
      refine ⟨_, rfl, ?_⟩
      have hH176 := hX175.of_all4
      refine za (zc (yi ((saveS d v (Hd.mk v.seq v.ep v.hcut v.st mark)).1)) rfl (zf (ze (hK168 _ _ (wp_ret (zr Tryz.results23  (v := (yi ((saveS d v (Hd.mk v.seq v.ep v.hcut v.st mark)).1))) rfl ?_))))))
      have hH178 := (((((hH176.front 5 rfl).front 4 rfl).front 4 rfl).front 4 rfl).front 4 rfl).first 5 rfl
      have hE_ : (flS n d v mark) = ((saveS d v (Hd.mk v.seq v.ep v.hcut v.st mark)).1, (saveS d v (Hd.mk v.seq v.ep v.hcut v.st mark)).2.1, (saveS d v (Hd.mk v.seq v.ep v.hcut v.st mark)).2.2) := by
       rw [flS_go (Classical.not_not.1 h8) (by omega)]; rw [flL_none (by omega)]; exact fl2_save rfl h154
      exact ⟨_, _, by rw [hE_], by rw [hE_]; exact hd172, by rw [hE_]; exact hs174, by rw [hE_]; exact hH178⟩
end Go.Q
namespace Go.Q
open Go.Proofs
set_option linter.unusedVariables false
set_option maxRecDepth 100000
attribute [local irreducible] wpList OK Code.wp
theorem awake8_c {E w : World} {R : List Hp} (hH : Has E w [R]) (hg : CellsAt R 0 0 nibV) :
  Calls Tryz.prog 11 #[] w fun e w' => e = .returned (.bool true) ∧ Has E w' [R] := by
 refine zs (args := []) Tryz.func11 rfl Tryz.ntmps11 (by simp) (yq fun K1 hK1 => (zd (za (zc (.bool false) rfl (zf (ze (hK1 _ _ (yq fun K2 hK2 => (zd (za (zk (vs := #[(.pointer none), (yi 6)]) ca12 rfl (zF rfl rfl) (new_nil hH.all (n := 6) (by decide)) ?_)))))))))))
 rintro _ w9 ⟨db3, pb4, sg5, rfl, hd6, hX7⟩
 refine ⟨_, rfl, ?_⟩
 have hH8 := hX7.of_all2
 have hH10 := hH8
 have hd11 : DevAt pb4 sg5 db3 s8d0.la s8d0.lo := hd6
 refine za (zc (yp db3) rfl (zf (ze (hK2 _ _ (yq fun K12 hK12 => (zd (za (zb (yp db3) rfl (za (zk (vs := #[(yp db3)]) ca31 rfl (zI rfl) (sformat_c (d := s8d0) ((hH10.front 1 rfl).front 1 rfl).all2 hd11 Few.new (by omega) (LoOk.nil _) (by rw [s8_n.1]; decide) (by rw [s8_n.1]; decide) s8_on.1 (hg.mono (zh 0 rfl)) s8_f) ?_))))))))))
 rintro _ w21 ⟨sb13, ab14, sg15, ss16, rfl, hd17, hs18, hX19⟩
 refine ⟨_, rfl, ?_⟩
 have hH20 := hX19.of_all4
 have hH22 : Has E w21 [ss16, (yo ab14 #[(yp db3), (yi 2), (yi 4)] 265), sg15, (yP pb4 ((fmS s8d0).2.2).p), R] := by have h_ := hH20; rw [show ((s8d0.la.length : Nat) : Int) - 2 = 4 from by rw [s8_n.1]; rfl] at h_; exact h_
 have hH23 := hH22
 have hd24 : DevAt pb4 sg15 db3 s8d1.la s8d1.lo := hd17
 have hd25 : StmAt db3 ab14 sb13 ss16 s8v1 := hs18
 refine za (zb (.tuple #[(yp sb13), (yi (0 : Int))]) rfl (za (zp (v := (yp sb13)) rfl rfl (za (zp (v := (yi (0 : Int))) rfl rfl (za (zc (yp sb13) rfl (za (zc (yi (0 : Int)) rfl (zf (ze (hK12 _ _ (yq fun K26 hK26 => (zd (za (zb (yp sb13) rfl (za (zw (ps := #[(0, (S [97]))]) (cells := #[(S [97])]) Tryz.underlying46 ti9 (by decide) (yb rfl) (by kernel_rfl) hH23 fun b27 w28 hH29 => (za (zk (vs := #[(yp sb13), (yi 1), (.slice (some ⟨b27, 0, none⟩) 1 1)]) ca30 rfl (args3 rfl rfl rfl) (sappend_c (db := db3) (ab := ab14) (v := s8v1) (g := 1) (ds := [[97]]) (n := 4) (hH29.front 1 rfl).all1 hd25 ((zW (f := sV) (l := [[97]]) rfl rfl (by simp)).mono (zh 0 rfl)) ((CellsAt.one rfl).mono (zh 1 rfl)) s8_k1 (by decide) (by decide)) ?_))))))))))))))))))))
 rintro _ w34 ⟨sg30, rfl, hd31, hX32⟩
 refine ⟨_, rfl, ?_⟩
 have hH33 := hX32.of_all1
 have hd35 : StmAt db3 ab14 sb13 sg30 s8v2 := hd31
 refine za (zc (yi (apE 4 s8v1 1 [[97]].flatten)) rfl (zf (ze (hK26 _ _ (yq fun K36 hK36 => (zd (za (zb (yp sb13) rfl (za (zw (ps := #[(0, (S [98])), (1, (S [99]))]) (cells := #[(S [98]), (S [99])]) Tryz.underlying46 ti9 (by decide) (parts2 rfl rfl) (by kernel_rfl) hH33 fun b37 w38 hH39 => (za (zk (vs := #[(yp sb13), (yi 2), (.slice (some ⟨b37, 0, none⟩) 2 2)]) ca30 rfl (args3 rfl rfl rfl) (sappend_c (db := db3) (ab := ab14) (v := s8v2) (g := 2) (ds := [[98], [99]]) (n := 4) (hH39.front 1 rfl).all1 hd35 ((zW (f := sV) (l := [[98], [99]]) rfl rfl (by simp)).mono (zh 0 rfl)) ((CellsAt.one rfl).mono (zh 2 rfl)) s8_k2 (by decide) (by decide)) ?_))))))))))))
 rintro _ w44 ⟨sg40, rfl, hd41, hX42⟩
 refine ⟨_, rfl, ?_⟩
 have hH43 := hX42.of_all1
 have hd45 : StmAt db3 ab14 sb13 sg40 s8v3 := hd41
 refine za (zc (yi (apE 4 s8v2 2 [[98], [99]].flatten)) rfl (zf (ze (hK36 _ _ (yq fun K46 hK46 => (zd (za (zb (yp sb13) rfl (za (zk (vs := #[(yp sb13), (yi 2)]) ca23 rfl (zF rfl rfl) (sflush_c (d := s8d1) (v := s8v3) (n := 4) (((hH43.front 3 rfl).front 5 rfl).front 5 rfl).all4 hd24 hd45 s8_f1 (by omega) s8_lk1 (by rw [s8_n.2.1]; decide) s8_64.2.1 (by rw [s8_n.2.1]; rfl) s8_k3 (hg.mono (zh 2 rfl)) (mark := 2)) ?_))))))))))
 rintro _ w53 ⟨sg47, ss49, rfl, hd48, hs50, hX51⟩
 refine ⟨_, rfl, ?_⟩
 have hH52 := hX51.of_all4
 have hH54 := hH52
 have hd55 : DevAt pb4 sg47 db3 s8d2.la s8d2.lo := hd48
 have hd56 : StmAt db3 ab14 sb13 ss49 s8v4 := hs50
 refine za (zc (yi ((flS 4 s8d1 s8v3 2).1)) rfl (zf (ze (hK46 _ _ (yq fun K57 hK57 => (zd (za (zb (yp sb13) rfl (za (zw (ps := #[(0, (S [100]))]) (cells := #[(S [100])]) Tryz.underlying46 ti9 (by decide) (yb rfl) (by kernel_rfl) hH54 fun b58 w59 hH60 => (za (zk (vs := #[(yp sb13), (yi 5), (.slice (some ⟨b58, 0, none⟩) 1 1)]) ca30 rfl (args3 rfl rfl rfl) (sappend_c (db := db3) (ab := ab14) (v := s8v4) (g := 5) (ds := [[100]]) (n := 4) (hH60.front 4 rfl).all1 hd56 ((zW (f := sV) (l := [[100]]) rfl rfl (by simp)).mono (zh 0 rfl)) ((CellsAt.one rfl).mono (zh 3 rfl)) s8_k4 (by decide) (by decide)) ?_))))))))))))
 rintro _ w65 ⟨sg61, rfl, hd62, hX63⟩
 refine ⟨_, rfl, ?_⟩
 have hH64 := hX63.of_all1
 have hd66 : StmAt db3 ab14 sb13 sg61 s8v5 := hd62
 refine zf (ze (hK57 _ _ (yq fun K67 hK67 => (zd (za (zb (yp db3) rfl (za (zk (vs := #[(yp db3), (.slice none 0 0)]) ca26 rfl (zF rfl rfl) (dv_cr (d := s8d2) ((hH64.front 3 rfl).front 3 rfl).all2 hd55 s8_lk2 (keep := ([] : List Int)) (sl_nil 1)) ?_))))))))
 rintro _ w72 ⟨sg68, rfl, hd69, hX70⟩
 refine ⟨_, rfl, ?_⟩
 have hH71 := hX70.of_all2
 have hH73 := hH71
 have hd74 : DevAt pb4 sg68 db3 s8d3.la s8d3.lo := hd69
 refine zf (ze (hK67 _ _ (yq fun K75 hK75 => (zd (za (zb (yp db3) rfl (za (zk (vs := #[(yp db3)]) ca16 rfl (zI rfl) (sopen_ok (d := s8d3) ((hH73.front 1 rfl).front 1 rfl).all2 hd74 (by rw [s8_n.2.2.2]; decide) (by rw [s8_n.2.2.2]; decide) s8_on.2 s8_64.2.2 rfl (hg.mono (zh 5 rfl)) (show opE s8d3 (((s8d3.la.length : Nat) : Int) - 2) = 0 by rw [s8_n.2.2.2]; exact s8_o)) ?_))))))))
 rintro _ w84 ⟨sb76, ab77, sg78, ss79, rfl, hd80, hs81, hX82⟩
 refine ⟨_, rfl, ?_⟩
 have hH83 := hX82.of_all4
 have hH85 : Has E w84 [ss79, (yo ab77 #[(yp db3), (yi 2), (yi 4)] 265), sg78, (yP pb4 s8d3.p), sg61, (yo b58 #[(S [100])] 9), (yo ab14 #[(yp db3), (yi 2), (yi 4)] 265), (yo b37 #[(S [98]), (S [99])] 9), (yo b27 #[(S [97])] 9), R] := by have h_ := hH83; rw [show ((s8d3.la.length : Nat) : Int) - 2 = 4 from by rw [s8_n.2.2.2]; rfl] at h_; exact h_
 have hs86 : StmAt db3 ab77 sb76 ss79 (opS s8d3 4) := by have h_ := hs81; rw [show ((s8d3.la.length : Nat) : Int) - 2 = 4 from by rw [s8_n.2.2.2]; rfl] at h_; exact h_
 have hd87 : StmAt db3 ab77 sb76 ss79 s8v6 := hs86
 refine za (zb (.tuple #[(yp sb76), (yi (0 : Int))]) rfl (za (zp (v := (yp sb76)) rfl rfl (za (zp (v := (yi (0 : Int))) rfl rfl (za (zc (yp sb76) rfl (za (zc (yi (0 : Int)) rfl (zf (ze (hK75 _ _ (yq fun K88 hK88 => (zd (za (zb (yp sb76) rfl (za (zk (vs := #[(yp sb76), (yi 0)]) ca17 rfl (zF rfl rfl) (sentries_c (v := s8v6) (db := db3) (ab := ab77) (g := 0) (n := 4) hH85.all (hd87.rd.mono (zh 0 rfl)) s8_k6) ?_))))))))))))))))))
 rintro _ w94 ⟨v89, s90, rfl, ho91, hX92⟩
 refine ⟨_, rfl, ?_⟩
 have hH93 : Has E w94 [s90, ss79, (yo ab77 #[(yp db3), (yi 2), (yi 4)] 265), sg78, (yP pb4 s8d3.p), sg61, (yo b58 #[(S [100])] 9), (yo ab14 #[(yp db3), (yi 2), (yi 4)] 265), (yo b37 #[(S [98]), (S [99])] 9), (yo b27 #[(S [97])] 9), R] := hX92.of_all1
 refine za (zc v89 rfl (zf (ze (hK88 _ _ (yq fun K95 hK95 => (zd (za (zb (yi (0 : Int)) rfl (za (yc (a := (0 : Int)) (b := 0) rfl rfl (za (zb (.bool (decide ((0 : Int) = 0))) rfl ?_))))))))))))
 by_cases h96 : (0 : Int) = 0
 ·
  refine zo 38 rfl (cT h96) (zb (yi (apE 4 s8v1 1 [[97]].flatten)) rfl (zo 38 rfl (cT h96) (yc (a := (apE 4 s8v1 1 [[97]].flatten)) (b := 0) rfl rfl (za (zq (u := (.bool (decide ((apE 4 s8v1 1 [[97]].flatten) = 0)))) ((rfl : _ = _).trans (cT h96)) rfl (za (zb (.bool (decide ((apE 4 s8v1 1 [[97]].flatten) = 0))) rfl ?_)))))))
  by_cases h97 : (apE 4 s8v1 1 [[97]].flatten) = 0
  ·
   refine zo 42 rfl (cT h97) (zb (yi (apE 4 s8v2 2 [[98], [99]].flatten)) rfl (zo 42 rfl (cT h97) (yc (a := (apE 4 s8v2 2 [[98], [99]].flatten)) (b := 0) rfl rfl (za (zq (u := (.bool (decide ((apE 4 s8v2 2 [[98], [99]].flatten) = 0)))) ((rfl : _ = _).trans (cT h97)) rfl (za (zb (.bool (decide ((apE 4 s8v2 2 [[98], [99]].flatten) = 0))) rfl ?_)))))))
   by_cases h98 : (apE 4 s8v2 2 [[98], [99]].flatten) = 0
   ·
    refine zo 46 rfl (cT h98) (zb (yi ((flS 4 s8d1 s8v3 2).1)) rfl (zo 46 rfl (cT h98) (yc (a := (flS 4 s8d1 s8v3 2).1) (b := 0) rfl rfl (za (zq (u := (.bool (decide ((flS 4 s8d1 s8v3 2).1 = 0)))) ((rfl : _ = _).trans (cT h98)) rfl (za (zb (.bool (decide ((flS 4 s8d1 s8v3 2).1 = 0))) rfl ?_)))))))
    by_cases h99 : (flS 4 s8d1 s8v3 2).1 = 0
    ·
     refine zo 50 rfl (cT h99) (zb (yi (0 : Int)) rfl (zo 50 rfl (cT h99) (yc (a := (0 : Int)) (b := 0) rfl rfl (za (zq (u := (.bool (decide ((0 : Int) = 0)))) ((rfl : _ = _).trans (cT h99)) rfl (za (zb (.bool (decide ((0 : Int) = 0))) rfl (zo 54 rfl (cT h96) (zb v89 rfl (zo 54 rfl (cT h96) (zQ Tryz.underlying37 rfl ho91.sl (zo 54 rfl (cT h96) (yc (a := (((s8v6.l.drop (posE s8v6.l 0).toNat).length : Nat) : Int)) (b := 2) rfl rfl (za (zq (u := (.bool (decide ((((s8v6.l.drop (posE s8v6.l 0).toNat).length : Nat) : Int) = 2)))) ((rfl : _ = _).trans (cT h96)) rfl (za (zb (.bool (decide ((((s8v6.l.drop (posE s8v6.l 0).toNat).length : Nat) : Int) = 2))) rfl ?_)))))))))))))))))
     by_cases h100 : (((s8v6.l.drop (posE s8v6.l 0).toNat).length : Nat) : Int) = 2
     ·
      refine zo 59 rfl (cT h100) (zb v89 rfl ?_)
      obtain ⟨x104, hx105⟩ : ∃ x_, (s8v6.l.drop (posE s8v6.l 0).toNat)[((1 : Int)).toNat]? = some x_ := zN (by rw [s8_l]; decide)
      refine zo 59 rfl (cT h100) (o_indexF enC_len Tryz.underlying37 ti42 rfl ho91.sl rfl rfl (by omega) hx105 fun b101 o102 hc103 => (zo 59 rfl (cT h100) (zG (cs := [(yi x104.gsn), (yi x104.at_), (S x104.data)]) Tryz.underlying42 rfl ti42 rfl hH93 (zh 0 rfl) hc103 (zo 59 rfl (cT h100) (zJ (v := (.agg #[(yi 2), (yi 26), (S [98, 99])])) (fun _ => by kernel_rfl) (zo 59 rfl (cT h100) (o_eql42 x104.gsn x104.at_ x104.data (2 : Int) (26 : Int) [98, 99] rfl rfl (za (zq (u := (.bool (eqv42 x104.gsn x104.at_ x104.data (2 : Int) (26 : Int) [98, 99]))) ((rfl : _ = _).trans (cT h100)) rfl (za (zb (.bool (eqv42 x104.gsn x104.at_ x104.data (2 : Int) (26 : Int) [98, 99])) rfl ?_)))))))))))
      rcases Bool.eq_false_or_eq_true (eqv42 x104.gsn x104.at_ x104.data (2 : Int) (26 : Int) [98, 99]) with h106 | h106
      ·
       refine zo 66 rfl (congrArg Value.bool h106) (zb (yp sb76) rfl (zo 66 rfl (congrArg Value.bool h106) (zk (vs := #[(yp sb76)]) ca29 rfl (zI rfl) (slast_c (v := s8v6) (db := db3) (ab := ab77) (n := 4) hH93.all (hd87.rd.mono (zh 1 rfl)) s8_k6) ?_)))
       rintro _ w109 ⟨rfl, hX107⟩
       refine ⟨_, rfl, ?_⟩
       have hH108 := hX107.of_all
       refine zo 66 rfl (congrArg Value.bool h106) (yc (a := (lastV s8v6)) (b := 2) rfl rfl (za (zq (u := (.bool (decide ((lastV s8v6) = 2)))) ((rfl : _ = _).trans (congrArg Value.bool h106)) rfl (za (zc (.bool (decide ((lastV s8v6) = 2))) rfl (zf (ze (hK95 _ _ (wp_ret (zr Tryz.results11  (v := (.bool (decide ((lastV s8v6) = 2)))) rfl ?_))))))))))
       have hH110 := (hH108.front 10 rfl).first 1 rfl
       exact ⟨by first | rfl | (rw [decide_eq_true (by first | decide | exact s8_t)]), hH110⟩
      ·
       exact absurd h106 (by have hx_ := hx105; rw [s8_l] at hx_; have e_ : _ = _ := Option.some.inj hx_; rw [← e_]; decide)
     ·
      exact absurd (by rw [s8_l]; rfl) h100
    ·
     exact absurd s8_c h99
   ·
    exact absurd (show _ = _ from s8_b) h98
  ·
   exact absurd (show _ = _ from s8_a) h97
 ·
  exact absurd h96 (by decide)
end Go.Q
