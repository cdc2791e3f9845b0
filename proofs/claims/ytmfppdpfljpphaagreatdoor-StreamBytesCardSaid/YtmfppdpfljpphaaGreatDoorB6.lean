/-
  Parts of a walk: what functions of the program compute, each told by a theorem (QsL10, QYD, QsRd).
-/
import Derived.Test.YtmfppdpfljpphaaGreatDoorB5
import Derived.OpenShut
set_option linter.unusedVariables false
set_option linter.unusedSimpArgs false
set_option linter.unnecessarySimpa false
namespace Go.Q
open Go.Proofs
set_option linter.unusedVariables false
set_option maxRecDepth 100000
attribute [local irreducible] wpList OK Code.wp
theorem new_nilN {E w : World} {R : List Hp} (hH : Has E w [R]) {x : Int} {n : Nat} (hx : x = (n : Int)) (hn : 1 ≤ n ∧ n ≤ 4096) :
  Calls Tryz.prog 12 #[(.pointer none), (.int .i64 x)] w fun e w' => ∃ db pb sg, e = .returned (.pointer (some ⟨db, 0, none⟩)) ∧ DevAt pb sg db (List.replicate n blankS) [] ∧ Has E w' [sg, [Hp.one pb (.cells #[(.bool false), (.bool false), (.int .i64 0), (.int .i64 0)] 145 (0, 0))], R] := by
 subst hx
 exact new_nil hH hn
set_option maxHeartbeats 4000000 in
theorem StreamBytes_c {E w : World} {R : List Hp} (hH : Has E w [R]) (hg : CellsAt R 0 0 nibV) {nn first : Int} (hnn : 0 ≤ nn ∧ nn ≤ 255) {h : Hd} (s : Bs) :
  Calls Tryz.prog 3 #[(.int .u8 nn), (.agg #[(.int .i64 h.seq), (.int .i64 h.ep), (.int .i64 h.cut), (.int .i64 h.st), (.int .i64 h.mrk)]), (.int .i64 first), (S s)] w fun e w' => e = .returned (.bool true) ∧ Has E w' [R] := by
 obtain ⟨kk, hkk⟩ : ∃ kk : Nat, (1 + nn % 20 : Int) = (kk : Int) := ⟨(1 + nn % 20).toNat, by omega⟩
 have hkb_ : 1 ≤ kk ∧ kk ≤ 20 := by omega
 refine zs (args := [(.int .u8 nn), (.agg #[(.int .i64 h.seq), (.int .i64 h.ep), (.int .i64 h.cut), (.int .i64 h.st), (.int .i64 h.mrk)]), (.int .i64 first), (S s)]) Tryz.func3 rfl Tryz.ntmps3 (by simp) ?_
 refine wp_seq_k fun K1 hK1 => ?_
 refine zb ?_
 refine za (o_box (cs := #[(.int .i64 h.seq), (.int .i64 h.ep), (.int .i64 h.cut), (.int .i64 h.st), (.int .i64 h.mrk)]) rfl rfl hH fun b2 w3 hH4 => ?_)
 refine za (ze (v := (.bool false)) rfl ?_)
 refine zf ?_
 refine zc (hK1 _ _ ?_)
 refine wp_seq_k fun K5 hK5 => ?_
 refine zb ?_
 refine za (zd (v := (.int .u8 nn)) rfl ?_)
 refine za (o_rem (a := nn) (b := 20) (c := nn % 20) rfl rfl (by omega) ((Int.tmod_eq_emod_of_nonneg (by first | exact Int.natCast_nonneg _ | omega))) ?_)
 refine za (ya (c := (nn % 20)) Tryz.underlying5 Tryz.underlying3 rfl (w64 (by omega) (by omega)) ?_)
 refine za (zH (a := 1) (b := nn % 20) rfl rfl (w64 (by omega) (by omega)) ?_)
 refine za (ze (v := .int .i64 (kk : Int)) (by rw [← hkk]; rfl) ?_)
 refine zf ?_
 refine zc (hK5 _ _ ?_)
 refine wp_seq_k fun K6 hK6 => ?_
 refine wp_seq_k fun K7 hK7 => ?_
 refine zb ?_
 refine za (zd (v := (S s)) rfl ?_)
 refine za (yb Tryz.underlying9 rfl ?_)
 refine za (zd (v := (.int .i64 (kk : Int))) rfl ?_)
 refine za (o_mul (a := 64) (b := (kk : Int)) rfl rfl (w64 (by omega) (by omega)) ?_)
 refine za (o_gtr (a := (s.length : Int)) (b := 64 * (kk : Int)) rfl rfl ?_)
 refine za (zd (v := (.bool (decide (64 * (kk : Int) < (s.length : Int))))) rfl ?_)
 by_cases h8 : 64 * (kk : Int) < (s.length : Int)
 ·
  refine zi (b' := true) 32 rfl (cT h8) rfl ?_
  refine zi (b' := true) 32 rfl (cT h8) rfl ?_
  refine za (zo (u := (.bool true)) ((rfl : _ = _).trans (cT h8)) rfl ?_)
  refine za (zd (v := (.bool true)) rfl ?_)
  refine zi (b' := true) 36 rfl rfl rfl ?_
  refine zi (b' := true) 36 rfl rfl rfl ?_
  refine za (zo (u := (.bool true)) rfl rfl ?_)
  refine za (zd (v := (.bool true)) rfl ?_)
  refine zi (b' := true) 40 rfl rfl rfl ?_
  refine zi (b' := true) 40 rfl rfl rfl ?_
  refine za (zo (u := (.bool true)) rfl rfl ?_)
  refine zf ?_
  refine zc (hK7 _ _ ?_)
  refine zN rfl rfl ?_
  refine wp_seq_k fun K9 hK9 => ?_
  refine zb ?_
  refine za (zk (vs := #[]) ca11 rfl (args0) (awake8_c hH4.all (hg.mono (zh 1 rfl))) ?_)
  rintro _ w12 ⟨rfl, hX10⟩
  refine ⟨_, rfl, ?_⟩
  have hH11 := hX10.of_all
  refine za (ze (v := (.bool true)) rfl ?_)
  refine zf ?_
  refine zc (hK9 _ _ ?_)
  refine wp_ret ?_
  refine zv (zq Tryz.results3  (v := (.bool true)) rfl ?_)
  have hH13 : Has E w12 [R] := (hH11.front 1 rfl).first 1 rfl
  exact ⟨by first | rfl | (rw [decide_eq_true rfl]) | (rw [decide_eq_true ho_]), hH13⟩
 ·
  refine zn 32 rfl (cF h8) (zd (v := (.int .i64 first)) rfl ?_)
  refine zn 32 rfl (cF h8) (zL (a := first) (b := 0) rfl rfl ?_)
  refine za (zm (u := (.bool (decide (first < 0)))) ((rfl : _ = _).trans (cF h8)) rfl ?_)
  refine za (zd (v := (.bool (decide (first < 0)))) rfl ?_)
  by_cases h14 : first < 0
  ·
   refine zi (b' := true) 36 rfl (cT h14) rfl ?_
   refine zi (b' := true) 36 rfl (cT h14) rfl ?_
   refine za (zo (u := (.bool true)) ((rfl : _ = _).trans (cT h14)) rfl ?_)
   refine za (zd (v := (.bool true)) rfl ?_)
   refine zi (b' := true) 40 rfl rfl rfl ?_
   refine zi (b' := true) 40 rfl rfl rfl ?_
   refine za (zo (u := (.bool true)) rfl rfl ?_)
   refine zf ?_
   refine zc (hK7 _ _ ?_)
   refine zN rfl rfl ?_
   refine wp_seq_k fun K15 hK15 => ?_
   refine zb ?_
   refine za (zk (vs := #[]) ca11 rfl (args0) (awake8_c hH4.all (hg.mono (zh 1 rfl))) ?_)
   rintro _ w18 ⟨rfl, hX16⟩
   refine ⟨_, rfl, ?_⟩
   have hH17 := hX16.of_all
   refine za (ze (v := (.bool true)) rfl ?_)
   refine zf ?_
   refine zc (hK15 _ _ ?_)
   refine wp_ret ?_
   refine zv (zq Tryz.results3  (v := (.bool true)) rfl ?_)
   have hH19 : Has E w18 [R] := (hH17.front 1 rfl).first 1 rfl
   exact ⟨by first | rfl | (rw [decide_eq_true rfl]) | (rw [decide_eq_true ho_]), hH19⟩
  ·
   refine zn 36 rfl (cF h14) (zd (v := (.int .i64 first)) rfl ?_)
   refine zn 36 rfl (cF h14) (o_gtr (a := first) (b := 1099511627776) rfl rfl ?_)
   refine za (zm (u := (.bool (decide (1099511627776 < first)))) ((rfl : _ = _).trans (cF h14)) rfl ?_)
   refine za (zd (v := (.bool (decide (1099511627776 < first)))) rfl ?_)
   by_cases h20 : 1099511627776 < first
   ·
    refine zi (b' := true) 40 rfl (cT h20) rfl ?_
    refine zi (b' := true) 40 rfl (cT h20) rfl ?_
    refine za (zo (u := (.bool true)) ((rfl : _ = _).trans (cT h20)) rfl ?_)
    refine zf ?_
    refine zc (hK7 _ _ ?_)
    refine zN rfl rfl ?_
    refine wp_seq_k fun K21 hK21 => ?_
    refine zb ?_
    refine za (zk (vs := #[]) ca11 rfl (args0) (awake8_c hH4.all (hg.mono (zh 1 rfl))) ?_)
    rintro _ w24 ⟨rfl, hX22⟩
    refine ⟨_, rfl, ?_⟩
    have hH23 := hX22.of_all
    refine za (ze (v := (.bool true)) rfl ?_)
    refine zf ?_
    refine zc (hK21 _ _ ?_)
    refine wp_ret ?_
    refine zv (zq Tryz.results3  (v := (.bool true)) rfl ?_)
    have hH25 : Has E w24 [R] := (hH23.front 1 rfl).first 1 rfl
    exact ⟨by first | rfl | (rw [decide_eq_true rfl]) | (rw [decide_eq_true ho_]), hH25⟩
   ·
    refine zn 40 rfl (cF h20) (zk (vs := #[]) ca11 rfl (args0) (awake8_c hH4.all (hg.mono (zh 1 rfl))) ?_)
    rintro _ w28 ⟨rfl, hX26⟩
    refine ⟨_, rfl, ?_⟩
    have hH27 := hX26.of_all
    refine zn 40 rfl (cF h20) (o_not rfl ?_)
    refine za (zm (u := (.bool false)) ((rfl : _ = _).trans (cF h20)) rfl ?_)
    refine zf ?_
    refine zc (hK7 _ _ ?_)
    refine zS rfl rfl ?_
    refine wp_skip ?_
    refine zc (hK6 _ _ ?_)
    refine wp_seq_k fun K29 hK29 => ?_
    refine zb ?_
    refine za (zd (v := (.int .i64 (kk : Int))) rfl ?_)
    refine za (zH (a := (kk : Int)) (b := 2) rfl rfl (w64 (by omega) (by omega)) ?_)
    refine za (zk (vs := #[(.pointer none), (.int .i64 ((kk : Int) + 2))]) ca12 rfl (zI rfl rfl) (new_nilN hH27.all (x := (kk : Int) + 2) (n := kk + 2) (by omega) (by omega)) ?_)
    rintro _ w36 ⟨db30, pb31, sg32, rfl, hd33, hX34⟩
    refine ⟨_, rfl, ?_⟩
    have hH35 : Has E w36 [sg32, [Hp.one pb31 (.cells #[(.bool (Pw.mk false false 0 0).off), (.bool (Pw.mk false false 0 0).armed), (.int .i64 (Pw.mk false false 0 0).left), (.int .i64 (Pw.mk false false 0 0).uses)] 145 (0, 0))], [Hp.one b2 (.cells #[(.int .i64 h.seq), (.int .i64 h.ep), (.int .i64 h.cut), (.int .i64 h.st), (.int .i64 h.mrk)] 23 (0, 0))], R] := hX34.of_all2
    refine za (ze (v := (.pointer (some ⟨db30, 0, none⟩))) rfl ?_)
    refine zf ?_
    refine zc (hK29 _ _ ?_)
    refine wp_seq_k fun K37 hK37 => ?_
    refine zb ?_
    refine za (zC (cs := [(.int .i64 h.seq), (.int .i64 h.ep), (.int .i64 h.cut), (.int .i64 h.st), (.int .i64 h.mrk)]) Tryz.underlying23 rfl zR rfl hH35 (zh 2 rfl) (CellsAt.one rfl) ?_)
    refine za (zk (vs := #[(.agg #[(.int .i64 h.seq), (.int .i64 h.ep), (.int .i64 h.cut), (.int .i64 h.st), (.int .i64 h.mrk)])]) ca13 rfl (zF rfl) (hlaid_c (h := h) hH35.all (hg.mono (zh 3 rfl))) ?_)
    rintro _ w40 ⟨rfl, hX38⟩
    refine ⟨_, rfl, ?_⟩
    have hH39 := hX38.of_all
    refine za (ze (v := (S (hdL h))) rfl ?_)
    refine zf ?_
    refine zc (hK37 _ _ ?_)
    refine wp_seq_k fun K41 hK41 => ?_
    refine wp_seq_k fun K42 hK42 => ?_
    refine zb ?_
    refine za (zg (k := 0) (fun _ => by kernel_rfl) rfl ?_)
    refine za (zj (v := (.int .i64 h.seq)) Tryz.underlying3 rfl rfl hH39 (zh 2 rfl) (CellsAt.one rfl) ?_)
    refine za (zL (a := h.seq) (b := 0) rfl rfl ?_)
    refine za (zd (v := (.bool (decide (h.seq < 0)))) rfl ?_)
    by_cases h43 : h.seq < 0
    ·
     refine zi (b' := true) 53 rfl (cT h43) rfl ?_
     refine zi (b' := true) 53 rfl (cT h43) rfl ?_
     refine za (zo (u := (.bool true)) ((rfl : _ = _).trans (cT h43)) rfl ?_)
     refine zf ?_
     refine zc (hK42 _ _ ?_)
     refine zN rfl rfl ?_
     refine wp_seq_k fun K44 hK44 => ?_
     refine zb ?_
     refine za (ze (v := (.bool true)) rfl ?_)
     refine zf ?_
     refine zc (hK44 _ _ ?_)
     refine wp_ret ?_
     refine zv (zq Tryz.results3  (v := (.bool true)) rfl ?_)
     have hH45 : Has E w40 [R] := (hH39.front 3 rfl).first 1 rfl
     exact ⟨by first | rfl | (rw [decide_eq_true rfl]) | (rw [decide_eq_true ho_]), hH45⟩
    ·
     refine zn 53 rfl (cF h43) (zd (v := (S (hdL h))) rfl ?_)
     refine zn 53 rfl (cF h43) (o_seql (a := (hdL h)) (b := ([] : List UInt8)) rfl rfl ?_)
     refine za (zm (u := (.bool (decide ((hdL h) = ([] : List UInt8))))) ((rfl : _ = _).trans (cF h43)) rfl ?_)
     refine zf ?_
     refine zc (hK42 _ _ ?_)
     refine zt rfl (fun h46 => ?_) (fun h46 => ?_)
     ·
      refine wp_seq_k fun K47 hK47 => ?_
      refine zb ?_
      refine za (ze (v := (.bool true)) rfl ?_)
      refine zf ?_
      refine zc (hK47 _ _ ?_)
      refine wp_ret ?_
      refine zv (zq Tryz.results3  (v := (.bool true)) rfl ?_)
      have hH48 : Has E w40 [R] := (hH39.front 3 rfl).first 1 rfl
      exact ⟨by first | rfl | (rw [decide_eq_true rfl]) | (rw [decide_eq_true ho_]), hH48⟩
     ·
      have hR_ := hdL_ne h46
      have hll_ := hdL_len hR_
      obtain ⟨⟨hb1_, hb1b_⟩, ⟨_, _⟩, ⟨_, _⟩, ⟨hst1_, hst2_⟩, _⟩ := of_decide_eq_true hR_
      refine wp_skip ?_
      refine zc (hK41 _ _ ?_)
      refine wp_seq_k fun K49 hK49 => ?_
      refine wp_seq_k fun K50 hK50 => ?_
      refine zb ?_
      refine za (zd (v := (.pointer (some ⟨db30, 0, none⟩))) rfl ?_)
      refine za (zg (k := 0) (fun _ => by kernel_rfl) rfl ?_)
      refine za (zj (v := (.int .i64 h.seq)) Tryz.underlying3 rfl rfl hH39 (zh 2 rfl) (CellsAt.one rfl) ?_)
      refine za (o_rem (a := h.seq) (b := 2) (c := h.seq % 2) rfl rfl (by omega) ((Int.tmod_eq_emod_of_nonneg (by first | exact Int.natCast_nonneg _ | omega))) ?_)
      refine za (zd (v := (S (hdL h))) rfl ?_)
      refine za (zk (vs := #[(.pointer (some ⟨db30, 0, none⟩)), (.int .i64 (h.seq % 2)), (S (hdL h))]) ca14 rfl (args3 rfl rfl rfl) (put0_d (p := (Pw.mk false false 0 0)) (la := (List.replicate (kk + 2) blankS)) ((hH39.front 1 rfl).front 1 rfl).all2 hd33 (h.seq % 2) (hdL h) (by first | omega | (simp only [List.length_drop, List.length_take]; omega))) ?_)
      rintro _ w55 ⟨sg51, rfl, hd52, hX53⟩
      refine ⟨_, rfl, ?_⟩
      have hH54 : Has E w55 [sg51, [Hp.one pb31 (.cells #[(.bool (Pw.mk false false 0 0).off), (.bool (Pw.mk false false 0 0).armed), (.int .i64 (Pw.mk false false 0 0).left), (.int .i64 (Pw.mk false false 0 0).uses)] 145 (0, 0))], [Hp.one b2 (.cells #[(.int .i64 h.seq), (.int .i64 h.ep), (.int .i64 h.cut), (.int .i64 h.st), (.int .i64 h.mrk)] 23 (0, 0))], R] := hX53.of_all2
      refine za (o_neq (a := putE ((List.replicate (kk + 2) blankS).length) (h.seq % 2) (hdL h)) (b := 0) rfl rfl ?_)
      refine zf ?_
      refine zc (hK50 _ _ ?_)
      refine zt rfl (fun h56 => ?_) (fun h56 => ?_)
      ·
       exact absurd (putE_ok (by omega) (by omega) (by rw [List.length_replicate]; omega)) h56
      ·
       refine wp_skip ?_
       refine zc (hK49 _ _ ?_)
       refine wp_seq_k fun K57 hK57 => ?_
       refine zb ?_
       refine za (zd (v := (.int .i64 (kk : Int))) rfl ?_)
       refine za (o_mul (a := 64) (b := (kk : Int)) rfl rfl (w64 (by omega) (by omega)) ?_)
       refine za (o_make Tryz.underlying30 ti5 rfl rfl (by omega) (by omega) (by omega) (by omega) hH54 fun v58 s59 w61 ho60 hH62 => ?_)
       have ho63 : Own 5 1 v58 (List.replicate (64 * (kk : Int)).toNat (0 : UInt8)).length ((List.replicate (64 * (kk : Int)).toNat (0 : UInt8)).map bV) s59 := by rw [List.length_replicate, List.map_replicate, ← made_rep]; exact ho60
       obtain ⟨p64, c65, rfl⟩ := (Own.sl ho60).form
       refine za (o_bstr Tryz.underlying30 Tryz.underlying5 Tryz.underlying9 rfl ho63.sl hH62 (zh 0 rfl) ?_)
       refine za (o_strb Tryz.underlying9 Tryz.underlying30 Tryz.underlying5 rfl (by rw [List.length_replicate]; omega) hH62 fun v66 s67 w69 ho68 hH70 => ?_)
       refine za (ze (v := v66) rfl ?_)
       refine zf ?_
       refine zc (hK57 _ _ ?_)
       refine wp_seq_k fun K71 hK71 => ?_
       refine wp_seq_k fun K72 hK72 => ?_
       refine zb ?_
       refine za (ze (v := (.int .i64 0)) rfl ?_)
       refine zf ?_
       refine zc (hK72 _ _ ?_)
       refine wp_block ?_
       let I74 : Nat → (Nat → Value) → World → Prop := fun n__ r__ w__ => ∃ (i : Nat) (nb : Bs) (sb : List Hp), n__ = s.length - i ∧ Has E w__ [sb, s59, sg51, [Hp.one pb31 (.cells #[(.bool (Pw.mk false false 0 0).off), (.bool (Pw.mk false false 0 0).armed), (.int .i64 (Pw.mk false false 0 0).left), (.int .i64 (Pw.mk false false 0 0).uses)] 145 (0, 0))], [Hp.one b2 (.cells #[(.int .i64 h.seq), (.int .i64 h.ep), (.int .i64 h.cut), (.int .i64 h.st), (.int .i64 h.mrk)] 23 (0, 0))], R] ∧ (i ≤ s.length) ∧ (OwnZ 5 v66 nb.length (nb.map bV) sb) ∧ (nb.length = 64 * kk) ∧ r__ 0 = (.int .u8 nn) ∧ r__ 1 = (.agg #[(.int .i64 h.seq), (.int .i64 h.ep), (.int .i64 h.cut), (.int .i64 h.st), (.int .i64 h.mrk)]) ∧ r__ 2 = (.int .i64 first) ∧ r__ 3 = (S s) ∧ r__ 5 = (.pointer (some ⟨b2, 0, none⟩)) ∧ r__ 8 = (.bool false) ∧ r__ 9 = (.int .i64 (kk : Int)) ∧ r__ 10 = (.pointer (some ⟨db30, 0, none⟩)) ∧ r__ 11 = (S (hdL h)) ∧ r__ 12 = v66 ∧ r__ 13 = (.int .i64 (i : Int)) ∧ r__ 43 = (.bool false) ∧ r__ 56 = (.bool (decide ((hdL h) = ([] : List UInt8)))) ∧ r__ 63 = (.bool (decide (putE ((List.replicate (kk + 2) blankS).length) (h.seq % 2) (hdL h) ≠ 0)))
       refine zT I74 _ ⟨0, (List.replicate (64 * (kk : Int)).toNat (0 : UInt8)), s67, rfl, hH70, Nat.zero_le _, ho68, (by rw [List.length_replicate]; omega), rfl, rfl, rfl, rfl, rfl, rfl, rfl, rfl, rfl, rfl, rfl, rfl, rfl, rfl⟩ ?_
       rintro n_ r77 w75 ⟨i, nb, sb, rfl, hH76, hi, hnb, hnl, e73_0, e73_1, e73_2, e73_3, e73_5, e73_8, e73_9, e73_10, e73_11, e73_12, e73_13, e73_43, e73_56, e73_63⟩
       refine wp_seq_k fun K78 hK78 => ?_
       refine wp_seq_k fun K79 hK79 => ?_
       refine zb ?_
       refine za (zd (v := (.int .i64 (i : Int))) e73_13 ?_)
       refine za (zd (v := (S s)) e73_3 ?_)
       refine za (yb Tryz.underlying9 rfl ?_)
       refine za (zL (a := (i : Int)) (b := (s.length : Int)) rfl rfl ?_)
       refine zf ?_
       refine zc (hK79 _ _ ?_)
       refine zt rfl (fun h80 => ?_) (fun h80 => ?_)
       ·
        refine wp_skip ?_
        refine zc (hK78 _ _ ?_)
        refine wp_seq_k fun K81 hK81 => ?_
        refine wp_block ?_
        refine Rest.region mixed (by kernel_rfl) ?_
        have hH82 : Has E { w75 with drawn := w75.drawn + 1 } [sb, s59, sg51, [Hp.one pb31 (.cells #[(.bool (Pw.mk false false 0 0).off), (.bool (Pw.mk false false 0 0).armed), (.int .i64 (Pw.mk false false 0 0).left), (.int .i64 (Pw.mk false false 0 0).uses)] 145 (0, 0))], [Hp.one b2 (.cells #[(.int .i64 h.seq), (.int .i64 h.ep), (.int .i64 h.cut), (.int .i64 h.st), (.int .i64 h.mrk)] 23 (0, 0))], R] := Has0.drew hH76 _
        refine Rest.phaseA (fun w_ => Has E w_ []) 0 10 10 rfl (by decide) (by kernel_rfl) ?_
        refine zr 0 rfl (by kernel_rfl) (fun w_ h_ => zd (v := v66) e73_12 ⟨rfl, rfl⟩) ?_
        refine zr 1 rfl (by kernel_rfl) (fun w_ h_ => zd (v := (.int .i64 first)) e73_2 ⟨rfl, rfl⟩) ?_
        refine zr 2 rfl (by kernel_rfl) (fun w_ h_ => zd (v := (.int .i64 (i : Int))) e73_13 ⟨rfl, rfl⟩) ?_
        refine zr 3 rfl (by kernel_rfl) (fun w_ h_ => zH (a := first) (b := (i : Int)) rfl rfl (w64 (by omega) (by omega)) ⟨rfl, rfl⟩) ?_
        refine zr 4 rfl (by kernel_rfl) (fun w_ h_ => zd (v := (.int .i64 (kk : Int))) e73_9 ⟨rfl, rfl⟩) ?_
        refine zr 5 rfl (by kernel_rfl) (fun w_ h_ => o_mul (a := 64) (b := (kk : Int)) rfl rfl (w64 (by omega) (by omega)) ⟨rfl, rfl⟩) ?_
        have hm83 := emod_b (first + (i : Int)) (64 * (kk : Int)) (by omega)
        refine zr 6 rfl (by kernel_rfl) (fun w_ h_ => o_rem (a := first + (i : Int)) (b := 64 * (kk : Int)) (c := (first + (i : Int)) % (64 * (kk : Int))) rfl rfl (by omega) ((Int.tmod_eq_emod_of_nonneg (by first | exact Int.natCast_nonneg _ | omega))) ⟨rfl, rfl⟩) ?_
        refine zr 7 rfl (by kernel_rfl) (fun w_ h_ => zd (v := (S s)) e73_3 ⟨rfl, rfl⟩) ?_
        refine zr 8 rfl (by kernel_rfl) (fun w_ h_ => zd (v := (.int .i64 (i : Int))) e73_13 ⟨rfl, rfl⟩) ?_
        obtain ⟨c84, hx85⟩ : ∃ x_, s[((i : Int)).toNat]? = some x_ := zM (by omega)
        have c84_lt := c84.toNat_lt
        refine zr 9 rfl (by kernel_rfl) (fun w_ h_ => o_sidx Tryz.underlying9 rfl rfl (by omega) hx85 ⟨rfl, rfl⟩) ?_
        have hH86 : Has E { w75 with drawn := w75.drawn + 1 } [] := hH82.first 0 rfl
        refine zQ (by kernel_rfl) hH86 ?_
        refine zP 10 rfl (by kernel_rfl) (o_ownAddrZ Tryz.underlying30 ti5 rfl hnb rfl (by omega) (by first | omega | (simp only [List.length_append, List.length_cons, List.length_nil, List.length_set]; omega)) fun b87 ho88 => ?_)
        refine r_eff 11 rfl (by kernel_rfl) (o_ownStoreZ (f := bV) (l := nb) (a := c84) ti5 rfl rfl rfl ho88 (by first | omega | (simp only [List.length_append, List.length_cons, List.length_nil, List.length_set]; omega)) hH82 fun s89 w90 ho91 hH92 => ?_)
        refine Rest.done (by kernel_rfl) ?_
        refine zG ?_
        refine zc (hK81 _ _ ?_)
        refine zb ?_
        refine za (zd (v := (.int .i64 (i : Int))) e73_13 ?_)
        refine za (zH (a := (i : Int)) (b := 1) rfl rfl (w64 (by omega) (by omega)) ?_)
        refine za (ze (v := (.int .i64 ((i : Int) + 1))) rfl ?_)
        refine zf ?_
        refine zc ⟨s.length - (i + 1), _, rfl, ?_, ?_⟩
        · omega
        · exact ⟨(i + 1), (nb.set (((first + (i : Int)) % (64 * (kk : Int))).toNat) c84), s89, rfl, hH92, (by omega), (ho91), (by rw [List.length_set]; exact hnl), e73_0, e73_1, e73_2, e73_3, e73_5, e73_8, e73_9, e73_10, e73_11, e73_12, rfl, e73_43, e73_56, e73_63⟩
       ·
        refine wp_exit ?_
        refine zx (zx (x_in (?_)))
        refine zc (hK71 _ _ ?_)
        refine wp_seq_k fun K93 hK93 => ?_
        refine wp_seq_k fun K94 hK94 => ?_
        refine zb ?_
        refine za (ze (v := (.int .i64 0)) rfl ?_)
        refine zf ?_
        refine zc (hK94 _ _ ?_)
        refine wp_block ?_
        let I96 : Nat → (Nat → Value) → World → Prop := fun n__ r__ w__ => ∃ (j : Nat) (la3 : List Bs) (sg3 : List Hp), n__ = kk - j ∧ Has E w__ [sg3, sb, s59, [Hp.one pb31 (.cells #[(.bool (Pw.mk false false 0 0).off), (.bool (Pw.mk false false 0 0).armed), (.int .i64 (Pw.mk false false 0 0).left), (.int .i64 (Pw.mk false false 0 0).uses)] 145 (0, 0))], [Hp.one b2 (.cells #[(.int .i64 h.seq), (.int .i64 h.ep), (.int .i64 h.cut), (.int .i64 h.st), (.int .i64 h.mrk)] 23 (0, 0))], R] ∧ (j ≤ kk) ∧ (DevAt pb31 sg3 db30 la3 []) ∧ (PutK nb (putA (List.replicate (kk + 2) blankS) (h.seq % 2) (hdL h)) kk j la3) ∧ r__ 0 = (.int .u8 nn) ∧ r__ 1 = (.agg #[(.int .i64 h.seq), (.int .i64 h.ep), (.int .i64 h.cut), (.int .i64 h.st), (.int .i64 h.mrk)]) ∧ r__ 2 = (.int .i64 first) ∧ r__ 3 = (S s) ∧ r__ 5 = (.pointer (some ⟨b2, 0, none⟩)) ∧ r__ 8 = (.bool false) ∧ r__ 9 = (.int .i64 (kk : Int)) ∧ r__ 10 = (.pointer (some ⟨db30, 0, none⟩)) ∧ r__ 11 = (S (hdL h)) ∧ r__ 12 = v66 ∧ r__ 13 = (.int .i64 (i : Int)) ∧ r__ 14 = (.int .i64 (j : Int)) ∧ r__ 43 = (.bool false) ∧ r__ 56 = (.bool (decide ((hdL h) = ([] : List UInt8)))) ∧ r__ 63 = (.bool (decide (putE ((List.replicate (kk + 2) blankS).length) (h.seq % 2) (hdL h) ≠ 0))) ∧ r__ 72 = (.bool (decide ((i : Int) < (s.length : Int))))
        have hH97 : Has E w75 [sg51, sb, s59, [Hp.one pb31 (.cells #[(.bool (Pw.mk false false 0 0).off), (.bool (Pw.mk false false 0 0).armed), (.int .i64 (Pw.mk false false 0 0).left), (.int .i64 (Pw.mk false false 0 0).uses)] 145 (0, 0))], [Hp.one b2 (.cells #[(.int .i64 h.seq), (.int .i64 h.ep), (.int .i64 h.cut), (.int .i64 h.st), (.int .i64 h.mrk)] 23 (0, 0))], R] := Has.pick hH76 [2, 0, 0, 0, 0, 0] (by kernel_rfl)
        refine zT I96 _ ⟨0, (putA (List.replicate (kk + 2) blankS) (h.seq % 2) (hdL h)), sg51, rfl, hH97, (by omega), hd52, PutK.start (by rw [putA_len, List.length_replicate]) (putA_64 (full_blank _)), e73_0, e73_1, e73_2, e73_3, e73_5, e73_8, e73_9, e73_10, e73_11, e73_12, e73_13, rfl, e73_43, e73_56, e73_63, rfl⟩ ?_
        rintro n_ r100 w98 ⟨j, la3, sg3, rfl, hH99, hj, hd3, hpk, e95_0, e95_1, e95_2, e95_3, e95_5, e95_8, e95_9, e95_10, e95_11, e95_12, e95_13, e95_14, e95_43, e95_56, e95_63, e95_72⟩
        have hl3_ := hpk.1
        refine wp_seq_k fun K101 hK101 => ?_
        refine wp_seq_k fun K102 hK102 => ?_
        refine zb ?_
        refine za (zd (v := (.int .i64 (j : Int))) e95_14 ?_)
        refine za (zd (v := (.int .i64 (kk : Int))) e95_9 ?_)
        refine za (zL (a := (j : Int)) (b := (kk : Int)) rfl rfl ?_)
        refine zf ?_
        refine zc (hK102 _ _ ?_)
        refine zt rfl (fun h103 => ?_) (fun h103 => ?_)
        ·
         refine wp_skip ?_
         refine zc (hK101 _ _ ?_)
         refine wp_seq_k fun K104 hK104 => ?_
         refine wp_block ?_
         refine zb ?_
         refine za (zd (v := (.pointer (some ⟨db30, 0, none⟩))) e95_10 ?_)
         refine za (zd (v := (.int .i64 (j : Int))) e95_14 ?_)
         refine za (zH (a := 2) (b := (j : Int)) rfl rfl (w64 (by omega) (by omega)) ?_)
         refine za (zd (v := v66) e95_12 ?_)
         refine za (zd (v := (.int .i64 (j : Int))) e95_14 ?_)
         refine za (o_mul (a := 64) (b := (j : Int)) rfl rfl (w64 (by omega) (by omega)) ?_)
         refine za (zd (v := (.int .i64 (j : Int))) e95_14 ?_)
         refine za (o_mul (a := 64) (b := (j : Int)) rfl rfl (w64 (by omega) (by omega)) ?_)
         refine za (zH (a := 64 * (j : Int)) (b := 64) rfl rfl (w64 (by omega) (by omega)) ?_)
         refine za (o_sl Tryz.underlying30 ti5 rfl hnb.sl rfl rfl (by omega) (by omega) (by omega) fun v105 hv106 => ?_)
         have hv107 := sl_partm hv106 (by omega) (by omega)
         refine za (o_bstr Tryz.underlying30 Tryz.underlying5 Tryz.underlying9 rfl hv107 hH99 (zh 1 rfl) ?_)
         refine za (zk (vs := #[(.pointer (some ⟨db30, 0, none⟩)), (.int .i64 (2 + (j : Int))), (S ((nb.take ((64 * (j : Int)) + 64).toNat).drop (64 * (j : Int)).toNat))]) ca14 rfl (args3 rfl rfl rfl) (put0_d (p := (Pw.mk false false 0 0)) (la := la3) ((hH99.front 3 rfl).front 1 rfl).all2 hd3 (2 + (j : Int)) ((nb.take ((64 * (j : Int)) + 64).toNat).drop (64 * (j : Int)).toNat) (by first | omega | (simp only [List.length_drop, List.length_take]; omega))) ?_)
         rintro _ w112 ⟨sg108, rfl, hd109, hX110⟩
         refine ⟨_, rfl, ?_⟩
         have hH111 : Has E w112 [sg108, [Hp.one pb31 (.cells #[(.bool (Pw.mk false false 0 0).off), (.bool (Pw.mk false false 0 0).armed), (.int .i64 (Pw.mk false false 0 0).left), (.int .i64 (Pw.mk false false 0 0).uses)] 145 (0, 0))], sb, s59, [Hp.one b2 (.cells #[(.int .i64 h.seq), (.int .i64 h.ep), (.int .i64 h.cut), (.int .i64 h.st), (.int .i64 h.mrk)] 23 (0, 0))], R] := hX110.of_all2
         refine zf ?_
         refine zG ?_
         refine zc (hK104 _ _ ?_)
         refine zb ?_
         refine za (zd (v := (.int .i64 (j : Int))) e95_14 ?_)
         refine za (zH (a := (j : Int)) (b := 1) rfl rfl (w64 (by omega) (by omega)) ?_)
         refine za (ze (v := (.int .i64 ((j : Int) + 1))) rfl ?_)
         refine zf ?_
         have hH113 : Has E w112 [sg108, sb, s59, [Hp.one pb31 (.cells #[(.bool (Pw.mk false false 0 0).off), (.bool (Pw.mk false false 0 0).armed), (.int .i64 (Pw.mk false false 0 0).left), (.int .i64 (Pw.mk false false 0 0).uses)] 145 (0, 0))], [Hp.one b2 (.cells #[(.int .i64 h.seq), (.int .i64 h.ep), (.int .i64 h.cut), (.int .i64 h.st), (.int .i64 h.mrk)] 23 (0, 0))], R] := Has.pick hH111 [0, 1, 1, 0, 0, 0] (by kernel_rfl)
         refine zc ⟨kk - (j + 1), _, rfl, ?_, ?_⟩
         · omega
         · exact ⟨(j + 1), (putA la3 (2 + (j : Int)) ((nb.take ((64 * (j : Int)) + 64).toNat).drop (64 * (j : Int)).toNat)), sg108, rfl, hH113, (by omega), (hd109), (hpk.step (by omega) hnl), e95_0, e95_1, e95_2, e95_3, e95_5, e95_8, e95_9, e95_10, e95_11, e95_12, e95_13, rfl, e95_43, e95_56, e95_63, e95_72⟩
        ·
         refine wp_exit ?_
         refine zx (zx (x_in (?_)))
         refine zc (hK93 _ _ ?_)
         refine wp_seq_k fun K114 hK114 => ?_
         refine zb ?_
         refine za (ze (v := (.slice none 0 0)) rfl ?_)
         refine zf ?_
         refine zc (hK114 _ _ ?_)
         refine wp_seq_k fun K115 hK115 => ?_
         refine wp_seq_k fun K116 hK116 => ?_
         refine zb ?_
         refine za (ze (v := (.int .i64 0)) rfl ?_)
         refine zf ?_
         refine zc (hK116 _ _ ?_)
         refine wp_block ?_
         let I118 : Nat → (Nat → Value) → World → Prop := fun n__ r__ w__ => ∃ (q : Nat) (wv : Value) (sw : List Hp) (acc : Bs), n__ = 64 * kk - q ∧ Has E w__ [sw, sg3, sb, s59, [Hp.one pb31 (.cells #[(.bool (Pw.mk false false 0 0).off), (.bool (Pw.mk false false 0 0).armed), (.int .i64 (Pw.mk false false 0 0).left), (.int .i64 (Pw.mk false false 0 0).uses)] 145 (0, 0))], [Hp.one b2 (.cells #[(.int .i64 h.seq), (.int .i64 h.ep), (.int .i64 h.cut), (.int .i64 h.st), (.int .i64 h.mrk)] 23 (0, 0))], R] ∧ (q ≤ 64 * kk) ∧ (Own 5 1 wv acc.length (acc.map bV) sw) ∧ (acc = rdR nb (h.st % ((kk : Int) * 64)).toNat (kk * 64) q) ∧ (acc.length ≤ q) ∧ r__ 0 = (.int .u8 nn) ∧ r__ 1 = (.agg #[(.int .i64 h.seq), (.int .i64 h.ep), (.int .i64 h.cut), (.int .i64 h.st), (.int .i64 h.mrk)]) ∧ r__ 2 = (.int .i64 first) ∧ r__ 3 = (S s) ∧ r__ 5 = (.pointer (some ⟨b2, 0, none⟩)) ∧ r__ 8 = (.bool false) ∧ r__ 9 = (.int .i64 (kk : Int)) ∧ r__ 10 = (.pointer (some ⟨db30, 0, none⟩)) ∧ r__ 11 = (S (hdL h)) ∧ r__ 12 = v66 ∧ r__ 13 = (.int .i64 (i : Int)) ∧ r__ 14 = (.int .i64 (j : Int)) ∧ r__ 15 = wv ∧ r__ 16 = (.int .i64 (q : Int)) ∧ r__ 43 = (.bool false) ∧ r__ 56 = (.bool (decide ((hdL h) = ([] : List UInt8)))) ∧ r__ 63 = (.bool (decide (putE ((List.replicate (kk + 2) blankS).length) (h.seq % 2) (hdL h) ≠ 0))) ∧ r__ 72 = (.bool (decide ((i : Int) < (s.length : Int)))) ∧ r__ 88 = (.bool (decide ((j : Int) < (kk : Int))))
         have hH119 : Has E w98 [[], sg3, sb, s59, [Hp.one pb31 (.cells #[(.bool (Pw.mk false false 0 0).off), (.bool (Pw.mk false false 0 0).armed), (.int .i64 (Pw.mk false false 0 0).left), (.int .i64 (Pw.mk false false 0 0).uses)] 145 (0, 0))], [Hp.one b2 (.cells #[(.int .i64 h.seq), (.int .i64 h.ep), (.int .i64 h.cut), (.int .i64 h.st), (.int .i64 h.mrk)] 23 (0, 0))], R] := Has.pick (Has.nil hH99) [0, 0, 0, 0, 0, 0, 0] (by kernel_rfl)
         refine zT I118 _ ⟨0, (.slice none 0 0), [], ([] : Bs), rfl, hH119, (by omega), Own.nil 5 1, rfl, (by simp), e95_0, e95_1, e95_2, e95_3, e95_5, e95_8, e95_9, e95_10, e95_11, e95_12, e95_13, e95_14, rfl, rfl, e95_43, e95_56, e95_63, e95_72, rfl⟩ ?_
         rintro n_ r122 w120 ⟨q, wv, sw, acc, rfl, hH121, hq, hwv, hacc, hal, e117_0, e117_1, e117_2, e117_3, e117_5, e117_8, e117_9, e117_10, e117_11, e117_12, e117_13, e117_14, e117_15, e117_16, e117_43, e117_56, e117_63, e117_72, e117_88⟩
         refine wp_seq_k fun K123 hK123 => ?_
         refine wp_seq_k fun K124 hK124 => ?_
         refine zb ?_
         refine za (zd (v := (.int .i64 (q : Int))) e117_16 ?_)
         refine za (zd (v := (.int .i64 (kk : Int))) e117_9 ?_)
         refine za (o_mul (a := 64) (b := (kk : Int)) rfl rfl (w64 (by omega) (by omega)) ?_)
         refine za (zL (a := (q : Int)) (b := 64 * (kk : Int)) rfl rfl ?_)
         refine zf ?_
         refine zc (hK124 _ _ ?_)
         refine zt rfl (fun h125 => ?_) (fun h125 => ?_)
         ·
          refine wp_skip ?_
          refine zc (hK123 _ _ ?_)
          refine wp_seq_k fun K126 hK126 => ?_
          refine wp_block ?_
          refine zb ?_
          refine za (zd (v := wv) e117_15 ?_)
          refine za (zd (v := v66) e117_12 ?_)
          refine za (zg (k := 3) (fun _ => by kernel_rfl) e117_5 ?_)
          refine za (zj (v := (.int .i64 h.st)) Tryz.underlying3 rfl rfl hH121 (zh 5 rfl) (CellsAt.one rfl) ?_)
          refine za (zd (v := (.int .i64 (kk : Int))) e117_9 ?_)
          refine za (o_mul (a := 64) (b := (kk : Int)) rfl rfl (w64 (by omega) (by omega)) ?_)
          have hm127 := emod_b h.st (64 * (kk : Int)) (by omega)
          refine za (o_rem (a := h.st) (b := 64 * (kk : Int)) (c := h.st % (64 * (kk : Int))) rfl rfl (by omega) ((Int.tmod_eq_emod_of_nonneg (by first | exact Int.natCast_nonneg _ | omega))) ?_)
          refine za (zd (v := (.int .i64 (q : Int))) e117_16 ?_)
          refine za (zH (a := h.st % (64 * (kk : Int))) (b := (q : Int)) rfl rfl (w64 (by omega) (by omega)) ?_)
          refine za (zd (v := (.int .i64 (kk : Int))) e117_9 ?_)
          refine za (o_mul (a := 64) (b := (kk : Int)) rfl rfl (w64 (by omega) (by omega)) ?_)
          have hm128 := emod_b ((h.st % (64 * (kk : Int))) + (q : Int)) (64 * (kk : Int)) (by omega)
          refine za (o_rem (a := (h.st % (64 * (kk : Int))) + (q : Int)) (b := 64 * (kk : Int)) (c := ((h.st % (64 * (kk : Int))) + (q : Int)) % (64 * (kk : Int))) rfl rfl (by omega) ((Int.tmod_eq_emod_of_nonneg (by first | exact Int.natCast_nonneg _ | omega))) ?_)
          obtain ⟨x132, hx133⟩ : ∃ x_, nb[(((h.st % (64 * (kk : Int))) + (q : Int)) % (64 * (kk : Int))).toNat]? = some x_ := zM (by omega)
          refine za (yc Tryz.underlying30 ti5 rfl hnb.sl rfl (by omega) hx133 fun b129 o130 hc131 => ?_)
          refine za (zj (v := (bV x132)) Tryz.underlying5 rfl rfl hH121 (zh 2 rfl) hc131 ?_)
          refine za (zu (ps := #[(0, (bV x132))]) (cells := #[(bV x132)]) Tryz.underlying30 ti5 (by decide) (parts1 rfl) (by kernel_rfl) hH121 fun b134 w135 hH136 => ?_)
          refine za (o_append Tryz.underlying30 ti5 rfl (by decide) rfl hwv rfl (zW (f := bV) (l := [x132]) rfl rfl (by simp)) (hH136.front 1 rfl) (zh 0 rfl) (one_bV _) (by simp only [List.length_cons, List.length_nil]; omega) (by simp only [List.length_cons, List.length_nil]; omega) fun v137 s138 w140 ho139 hH141 => ?_)
          have ho139 : Own 5 1 v137 (acc ++ [x132]).length ((acc ++ [x132]).map bV) s138 := ho139.app
          refine za (ze (v := v137) rfl ?_)
          refine zf ?_
          refine zG ?_
          refine zc (hK126 _ _ ?_)
          refine zb ?_
          refine za (zd (v := (.int .i64 (q : Int))) e117_16 ?_)
          refine za (zH (a := (q : Int)) (b := 1) rfl rfl (w64 (by omega) (by omega)) ?_)
          refine za (ze (v := (.int .i64 ((q : Int) + 1))) rfl ?_)
          refine zf ?_
          have hH142 : Has E w140 [s138, sg3, sb, s59, [Hp.one pb31 (.cells #[(.bool (Pw.mk false false 0 0).off), (.bool (Pw.mk false false 0 0).armed), (.int .i64 (Pw.mk false false 0 0).left), (.int .i64 (Pw.mk false false 0 0).uses)] 145 (0, 0))], [Hp.one b2 (.cells #[(.int .i64 h.seq), (.int .i64 h.ep), (.int .i64 h.cut), (.int .i64 h.st), (.int .i64 h.mrk)] 23 (0, 0))], R] := Has.pick hH141 [0, 1, 1, 1, 1, 1, 1] (by kernel_rfl)
          refine zc ⟨64 * kk - (q + 1), _, rfl, ?_, ?_⟩
          · omega
          · exact ⟨(q + 1), v137, s138, (acc ++ [x132]), rfl, hH142, (by omega), (ho139), (rd_step hacc (idxN (a := h.st) (n := (kk : Int)) (by omega) (by omega)) hx133), (by simp only [List.length_append, List.length_cons, List.length_nil]; omega), e117_0, e117_1, e117_2, e117_3, e117_5, e117_8, e117_9, e117_10, e117_11, e117_12, e117_13, e117_14, rfl, rfl, e117_43, e117_56, e117_63, e117_72, e117_88⟩
         ·
          refine wp_exit ?_
          refine zx (zx (x_in (?_)))
          refine zc (hK115 _ _ ?_)
          refine wp_seq_k fun K143 hK143 => ?_
          refine zb ?_
          refine za (zg (k := 1) (fun _ => by kernel_rfl) e117_5 ?_)
          refine za (zj (v := (.int .i64 h.ep)) Tryz.underlying3 rfl rfl hH121 (zh 5 rfl) (CellsAt.one rfl) ?_)
          refine za (zg (k := 2) (fun _ => by kernel_rfl) e117_5 ?_)
          refine za (zj (v := (.int .i64 h.cut)) Tryz.underlying3 rfl rfl hH121 (zh 5 rfl) (CellsAt.one rfl) ?_)
          refine za (zd (v := wv) e117_15 ?_)
          refine za (o_bstr Tryz.underlying30 Tryz.underlying5 Tryz.underlying9 rfl hwv.sl hH121 (zh 0 rfl) ?_)
          refine za (zg (k := 3) (fun _ => by kernel_rfl) e117_5 ?_)
          refine za (zj (v := (.int .i64 h.st)) Tryz.underlying3 rfl rfl hH121 (zh 5 rfl) (CellsAt.one rfl) ?_)
          refine za (zk (vs := #[(.int .i64 h.ep), (.int .i64 h.cut), (S acc), (.int .i64 h.st), (.int .i64 (-1))]) ca15 rfl (args5 rfl rfl rfl rfl rfl) (refchain_c hH121.all acc (by omega) h.ep h.cut h.st (-1) (by omega)) ?_)
          rintro _ w149 ⟨v144, s145, rfl, ho146, hX147⟩
          refine ⟨_, rfl, ?_⟩
          have hH148 : Has E w149 [s145, sw, sg3, sb, s59, [Hp.one pb31 (.cells #[(.bool (Pw.mk false false 0 0).off), (.bool (Pw.mk false false 0 0).armed), (.int .i64 (Pw.mk false false 0 0).left), (.int .i64 (Pw.mk false false 0 0).uses)] 145 (0, 0))], [Hp.one b2 (.cells #[(.int .i64 h.seq), (.int .i64 h.ep), (.int .i64 h.cut), (.int .i64 h.st), (.int .i64 h.mrk)] 23 (0, 0))], R] := hX147.of_all1
          refine za (zd (v := (.tuple #[v144, (.int .i64 ((chainS h.ep h.cut (acc.length + 1) acc h.st (-1)).2))])) rfl ?_)
          refine za (zp (v := v144) rfl rfl ?_)
          refine za (zp (v := (.int .i64 ((chainS h.ep h.cut (acc.length + 1) acc h.st (-1)).2))) rfl rfl ?_)
          refine za (ze (v := v144) rfl ?_)
          refine za (ze (v := (.int .i64 ((chainS h.ep h.cut (acc.length + 1) acc h.st (-1)).2))) rfl ?_)
          refine zf ?_
          refine zc (hK143 _ _ ?_)
          refine wp_seq_k fun K150 hK150 => ?_
          refine zb ?_
          refine za (zd (v := (.pointer (some ⟨db30, 0, none⟩))) e117_10 ?_)
          have hH151 : Has E w149 [s145, sw, sg3, sb, s59, [Hp.one pb31 (.cells #[(.bool (Dv.mk (Pw.mk false false 0 0) la3 []).p.off), (.bool (Dv.mk (Pw.mk false false 0 0) la3 []).p.armed), (.int .i64 (Dv.mk (Pw.mk false false 0 0) la3 []).p.left), (.int .i64 (Dv.mk (Pw.mk false false 0 0) la3 []).p.uses)] 145 (0, 0))], [Hp.one b2 (.cells #[(.int .i64 h.seq), (.int .i64 h.ep), (.int .i64 h.cut), (.int .i64 h.st), (.int .i64 h.mrk)] 23 (0, 0))], R] := hH148
          have hd152 : DevAt pb31 sg3 db30 (Dv.mk (Pw.mk false false 0 0) la3 []).la (Dv.mk (Pw.mk false false 0 0) la3 []).lo := hd3
          have hjk_ : j = kk := by omega
          rw [hjk_] at hpk
          have hq2_ : q = 64 * kk := by omega
          rw [hq2_] at hacc
          have hN_ : (((Dv.mk (Pw.mk false false 0 0) la3 []).la.length : Nat) : Int) - 2 = (kk : Int) := by show ((la3.length : Nat) : Int) - 2 = _; omega
          obtain ⟨hHd_, hHe_⟩ := (hpk.kp (put_kp (by omega) hR_)).ld (p := (Pw.mk false false 0 0)) (by show atOk la3.length 0; exact ⟨by decide, by omega⟩) rfl
          have hrg_ : ringB (Dv.mk (Pw.mk false false 0 0) la3 []) (kk : Int) h.st = acc := by rw [hacc]; exact hpk.ring hnl (by omega) _ _
          have hop_ : opC (Dv.mk (Pw.mk false false 0 0) la3 []) ((((Dv.mk (Pw.mk false false 0 0) la3 []).la.length : Nat) : Int) - 2) = (chainS h.ep h.cut (acc.length + 1) acc h.st (-1)) := by unfold opC; rw [hN_, hHd_, hrg_]
          have hHd2_ : ldH (Dv.mk (Pw.mk false false 0 0) la3 []).p (Dv.mk (Pw.mk false false 0 0) la3 []).la 0 = h := hHd_
          have hcc_ := chain_count h.ep h.cut (acc.length + 1) acc h.st (-1)
          rcases opE_two (d := (Dv.mk (Pw.mk false false 0 0) la3 [])) (n := (((Dv.mk (Pw.mk false false 0 0) la3 []).la.length : Nat) : Int) - 2) hHe_ with ⟨ho_, hb_⟩ | ⟨ho_, hb_⟩
          ·
           rw [hop_, hHd2_] at hb_
           have hb2_ : ¬ (h.ep = 0 ∨ h.cut < h.st ∨ (chainS h.ep h.cut (acc.length + 1) acc h.st (-1)).2 < h.cut) := hb_
           have hko_ : StmOk (kk : Int) (opS (Dv.mk (Pw.mk false false 0 0) la3 []) (kk : Int)) := opS_ok ⟨by omega, by omega⟩ hpk.2.1 (LoOk.nil _) (by show ((la3.length : Nat) : Int) = _; omega) (by rw [← hN_]; exact ho_)
           have hgt_ := ents_all hko_
           rw [← hN_] at hgt_
           rw [hop_, hN_] at hgt_
           refine za (zk (vs := #[(.pointer (some ⟨db30, 0, none⟩))]) ca16 rfl (zF rfl) (sopen_ok (d := (Dv.mk (Pw.mk false false 0 0) la3 [])) ((hH151.front 5 rfl).front 3 rfl).all2 hd152 (by show la3.length ≤ 4096; omega) (by show 3 ≤ la3.length; omega) rfl hpk.2.1 rfl (hg.mono (zh 5 rfl)) ho_) ?_)
           rintro _ w161 ⟨sb153, ab154, sg155, ss156, rfl, hd157, hs158, hX159⟩
           refine ⟨_, rfl, ?_⟩
           have hH160 : Has E w161 [ss156, [Hp.one ab154 (.cells #[(.pointer (some ⟨db30, 0, none⟩)), (.int .i64 2), (.int .i64 ((((Dv.mk (Pw.mk false false 0 0) la3 []).la.length : Nat) : Int) - 2))] 265 (0, 0))], sg155, [Hp.one pb31 (.cells #[(.bool (Dv.mk (Pw.mk false false 0 0) la3 []).p.off), (.bool (Dv.mk (Pw.mk false false 0 0) la3 []).p.armed), (.int .i64 (Dv.mk (Pw.mk false false 0 0) la3 []).p.left), (.int .i64 (Dv.mk (Pw.mk false false 0 0) la3 []).p.uses)] 145 (0, 0))], s145, sw, sb, s59, [Hp.one b2 (.cells #[(.int .i64 h.seq), (.int .i64 h.ep), (.int .i64 h.cut), (.int .i64 h.st), (.int .i64 h.mrk)] 23 (0, 0))], R] := hX159.of_all4
           have hH162 : Has E w161 [ss156, [Hp.one ab154 (.cells #[(.pointer (some ⟨db30, 0, none⟩)), (.int .i64 2), (.int .i64 (kk : Int))] 265 (0, 0))], sg155, [Hp.one pb31 (.cells #[(.bool (Dv.mk (Pw.mk false false 0 0) la3 []).p.off), (.bool (Dv.mk (Pw.mk false false 0 0) la3 []).p.armed), (.int .i64 (Dv.mk (Pw.mk false false 0 0) la3 []).p.left), (.int .i64 (Dv.mk (Pw.mk false false 0 0) la3 []).p.uses)] 145 (0, 0))], s145, sw, sb, s59, [Hp.one b2 (.cells #[(.int .i64 h.seq), (.int .i64 h.ep), (.int .i64 h.cut), (.int .i64 h.st), (.int .i64 h.mrk)] 23 (0, 0))], R] := by have h_ := hH160; rw [hN_] at h_; exact h_
           have hs163 : StmAt db30 ab154 sb153 ss156 (opS (Dv.mk (Pw.mk false false 0 0) la3 []) (kk : Int)) := by have h_ := hs158; rw [hN_] at h_; exact h_
           refine za (zd (v := (.tuple #[(.pointer (some ⟨sb153, 0, none⟩)), (.int .i64 (0 : Int))])) rfl ?_)
           refine za (zp (v := (.pointer (some ⟨sb153, 0, none⟩))) rfl rfl ?_)
           refine za (zp (v := (.int .i64 (0 : Int))) rfl rfl ?_)
           refine za (ze (v := (.pointer (some ⟨sb153, 0, none⟩))) rfl ?_)
           refine za (ze (v := (.int .i64 (0 : Int))) rfl ?_)
           refine zf ?_
           refine zc (hK150 _ _ ?_)
           refine wp_seq_k fun K164 hK164 => ?_
           refine wp_seq_k fun K165 hK165 => ?_
           refine zb ?_
           refine za (zg (k := 1) (fun _ => by kernel_rfl) e117_5 ?_)
           refine za (zj (v := (.int .i64 h.ep)) Tryz.underlying3 rfl rfl hH162 (zh 8 rfl) (CellsAt.one rfl) ?_)
           refine za (yd (a := h.ep) (b := 0) rfl rfl ?_)
           refine za (zd (v := (.bool (decide (h.ep = 0)))) rfl ?_)
           by_cases h166 : h.ep = 0
           ·
            exfalso; omega
           ·
            refine zn 145 rfl (cF h166) (zg (k := 3) (fun _ => by kernel_rfl) e117_5 ?_)
            refine zn 145 rfl (cF h166) (zj (v := (.int .i64 h.st)) Tryz.underlying3 rfl rfl hH162 (zh 8 rfl) (CellsAt.one rfl) ?_)
            refine zn 145 rfl (cF h166) (zg (k := 2) (fun _ => by kernel_rfl) e117_5 ?_)
            refine zn 145 rfl (cF h166) (zj (v := (.int .i64 h.cut)) Tryz.underlying3 rfl rfl hH162 (zh 8 rfl) (CellsAt.one rfl) ?_)
            refine zn 145 rfl (cF h166) (o_gtr (a := h.st) (b := h.cut) rfl rfl ?_)
            refine za (zm (u := (.bool (decide (h.cut < h.st)))) ((rfl : _ = _).trans (cF h166)) rfl ?_)
            refine za (zd (v := (.bool (decide (h.cut < h.st)))) rfl ?_)
            by_cases h167 : h.cut < h.st
            ·
             exfalso; omega
            ·
             refine zn 152 rfl (cF h167) (zd (v := (.int .i64 ((chainS h.ep h.cut (acc.length + 1) acc h.st (-1)).2))) rfl ?_)
             refine zn 152 rfl (cF h167) (zg (k := 2) (fun _ => by kernel_rfl) e117_5 ?_)
             refine zn 152 rfl (cF h167) (zj (v := (.int .i64 h.cut)) Tryz.underlying3 rfl rfl hH162 (zh 8 rfl) (CellsAt.one rfl) ?_)
             refine zn 152 rfl (cF h167) (zL (a := (chainS h.ep h.cut (acc.length + 1) acc h.st (-1)).2) (b := h.cut) rfl rfl ?_)
             refine za (zm (u := (.bool (decide ((chainS h.ep h.cut (acc.length + 1) acc h.st (-1)).2 < h.cut)))) ((rfl : _ = _).trans (cF h167)) rfl ?_)
             refine zf ?_
             refine zc (hK165 _ _ ?_)
             refine zt rfl (fun h168 => ?_) (fun h168 => ?_)
             ·
              exfalso; omega
             ·
              refine wp_skip ?_
              refine zc (hK164 _ _ ?_)
              refine wp_seq_k fun K169 hK169 => ?_
              refine zb ?_
              refine za (zd (v := (.pointer (some ⟨sb153, 0, none⟩))) rfl ?_)
              refine za (zk (vs := #[(.pointer (some ⟨sb153, 0, none⟩)), (.int .i64 (-1))]) ca17 rfl (zI rfl rfl) (sentries_c (v := (opS (Dv.mk (Pw.mk false false 0 0) la3 []) (kk : Int))) (db := db30) (ab := ab154) (g := -1) (n := (kk : Int)) hH162.all (hs163.rd.mono (zh 0 rfl)) hko_) ?_)
              rintro _ w175 ⟨v170, s171, rfl, ho172, hX173⟩
              refine ⟨_, rfl, ?_⟩
              have hH174 : Has E w175 [s171, ss156, [Hp.one ab154 (.cells #[(.pointer (some ⟨db30, 0, none⟩)), (.int .i64 2), (.int .i64 (kk : Int))] 265 (0, 0))], sg155, [Hp.one pb31 (.cells #[(.bool (Dv.mk (Pw.mk false false 0 0) la3 []).p.off), (.bool (Dv.mk (Pw.mk false false 0 0) la3 []).p.armed), (.int .i64 (Dv.mk (Pw.mk false false 0 0) la3 []).p.left), (.int .i64 (Dv.mk (Pw.mk false false 0 0) la3 []).p.uses)] 145 (0, 0))], s145, sw, sb, s59, [Hp.one b2 (.cells #[(.int .i64 h.seq), (.int .i64 h.ep), (.int .i64 h.cut), (.int .i64 h.st), (.int .i64 h.mrk)] 23 (0, 0))], R] := hX173.of_all1
              refine za (ze (v := v170) rfl ?_)
              refine zf ?_
              refine zc (hK169 _ _ ?_)
              refine wp_seq_k fun K176 hK176 => ?_
              refine wp_seq_k fun K177 hK177 => ?_
              refine Rest.region mixed (by kernel_rfl) ?_
              have hH178 : Has E { w175 with drawn := w175.drawn + 1 } [s171, ss156, [Hp.one ab154 (.cells #[(.pointer (some ⟨db30, 0, none⟩)), (.int .i64 2), (.int .i64 (kk : Int))] 265 (0, 0))], sg155, [Hp.one pb31 (.cells #[(.bool (Dv.mk (Pw.mk false false 0 0) la3 []).p.off), (.bool (Dv.mk (Pw.mk false false 0 0) la3 []).p.armed), (.int .i64 (Dv.mk (Pw.mk false false 0 0) la3 []).p.left), (.int .i64 (Dv.mk (Pw.mk false false 0 0) la3 []).p.uses)] 145 (0, 0))], s145, sw, sb, s59, [Hp.one b2 (.cells #[(.int .i64 h.seq), (.int .i64 h.ep), (.int .i64 h.cut), (.int .i64 h.st), (.int .i64 h.mrk)] 23 (0, 0))], R] := Has0.drew hH174 _
              refine zP 0 rfl (by kernel_rfl) (zd (v := (.int .i64 (0 : Int))) rfl ?_)
              refine zP 1 rfl (by kernel_rfl) (o_neq (a := (0 : Int)) (b := 0) rfl rfl ?_)
              refine zP 2 rfl (by kernel_rfl) (zd (v := (.bool (decide ((0 : Int) ≠ 0)))) rfl ?_)
              refine Rest.phaseA (fun w_ => Has E w_ []) 3 7 4 rfl (by decide) (by kernel_rfl) ?_
              by_cases h179 : (0 : Int) ≠ 0
              ·
               exact absurd h179 (by decide)
              ·
               refine a_on 3 rfl (by kernel_rfl) 168 rfl (cF h179) (fun w_ h_ => zd (v := v170) rfl ⟨rfl, rfl⟩) ?_
               refine a_on 4 rfl (by kernel_rfl) 168 rfl (cF h179) (fun w_ h_ => zY Tryz.underlying37 rfl ho172.sl ⟨rfl, rfl⟩) ?_
               refine a_on 5 rfl (by kernel_rfl) 168 rfl (cF h179) (fun w_ h_ => zd (v := v144) rfl ⟨rfl, rfl⟩) ?_
               refine a_on 6 rfl (by kernel_rfl) 168 rfl (cF h179) (fun w_ h_ => zY Tryz.underlying31 rfl ho146.sl ⟨rfl, rfl⟩) ?_
               have hH180 : Has E { w175 with drawn := w175.drawn + 1 } [] := hH178.first 0 rfl
               refine zQ (by kernel_rfl) hH180 ?_
               refine r_on 7 rfl (by kernel_rfl) 168 rfl (cF h179) (o_neq (a := ((((opS (Dv.mk (Pw.mk false false 0 0) la3 []) (kk : Int)).l.drop (posE (opS (Dv.mk (Pw.mk false false 0 0) la3 []) (kk : Int)).l (-1)).toNat).length : Nat) : Int)) (b := ((((chainS h.ep h.cut (acc.length + 1) acc h.st (-1)).1).length : Nat) : Int)) rfl rfl ?_)
               refine zP 8 rfl (by kernel_rfl) (zm (u := (.bool (decide (((((opS (Dv.mk (Pw.mk false false 0 0) la3 []) (kk : Int)).l.drop (posE (opS (Dv.mk (Pw.mk false false 0 0) la3 []) (kk : Int)).l (-1)).toNat).length : Nat) : Int) ≠ ((((chainS h.ep h.cut (acc.length + 1) acc h.st (-1)).1).length : Nat) : Int))))) ((rfl : _ = _).trans (cF h179)) rfl ?_)
               refine zP 9 rfl (by kernel_rfl) (zd (v := (.bool (decide (((((opS (Dv.mk (Pw.mk false false 0 0) la3 []) (kk : Int)).l.drop (posE (opS (Dv.mk (Pw.mk false false 0 0) la3 []) (kk : Int)).l (-1)).toNat).length : Nat) : Int) ≠ ((((chainS h.ep h.cut (acc.length + 1) acc h.st (-1)).1).length : Nat) : Int))))) rfl ?_)
               refine Rest.phaseA (fun w_ => Has E w_ []) 10 13 3 rfl (by decide) (by kernel_rfl) ?_
               by_cases h181 : ((((opS (Dv.mk (Pw.mk false false 0 0) la3 []) (kk : Int)).l.drop (posE (opS (Dv.mk (Pw.mk false false 0 0) la3 []) (kk : Int)).l (-1)).toNat).length : Nat) : Int) ≠ ((((chainS h.ep h.cut (acc.length + 1) acc h.st (-1)).1).length : Nat) : Int)
               ·
                exact absurd (by rw [hgt_, List.length_map]) h181
               ·
                refine a_on 10 rfl (by kernel_rfl) 175 rfl (cF h181) (fun w_ h_ => zd (v := (.pointer (some ⟨sb153, 0, none⟩))) rfl ⟨rfl, rfl⟩) ?_
                refine a_on 12 rfl (by kernel_rfl) 175 rfl (cF h181) (fun w_ h_ => zd (v := (.int .i64 ((chainS h.ep h.cut (acc.length + 1) acc h.st (-1)).2))) rfl ⟨rfl, rfl⟩) ?_
                have hH182 : Has E { w175 with drawn := w175.drawn + 1 } [] := hH178.first 0 rfl
                refine a_won 11 rfl (by kernel_rfl) hH182 175 rfl (cF h181) (zk (vs := #[(.pointer (some ⟨sb153, 0, none⟩))]) ca18 rfl (zF rfl) (stail_c (v := (opS (Dv.mk (Pw.mk false false 0 0) la3 []) (kk : Int))) (db := db30) (ab := ab154) (n := (kk : Int)) hH178.all (hs163.rd.mono (zh 1 rfl)) hko_) ?_)
                rintro _ w185 ⟨rfl, hX183⟩
                refine ⟨_, rfl, ?_⟩
                have hH184 := hX183.of_all
                have hH186 : Has E w185 [] := hH184.first 0 rfl
                refine zQ (by kernel_rfl) hH186 ?_
                refine r_on 13 rfl (by kernel_rfl) 175 rfl (cF h181) (o_neq (a := (opS (Dv.mk (Pw.mk false false 0 0) la3 []) (kk : Int)).tail) (b := (chainS h.ep h.cut (acc.length + 1) acc h.st (-1)).2) rfl rfl ?_)
                refine zP 14 rfl (by kernel_rfl) (zm (u := (.bool (decide ((opS (Dv.mk (Pw.mk false false 0 0) la3 []) (kk : Int)).tail ≠ (chainS h.ep h.cut (acc.length + 1) acc h.st (-1)).2)))) ((rfl : _ = _).trans (cF h181)) rfl ?_)
                refine zP 15 rfl (by kernel_rfl) (zd (v := (.bool (decide ((opS (Dv.mk (Pw.mk false false 0 0) la3 []) (kk : Int)).tail ≠ (chainS h.ep h.cut (acc.length + 1) acc h.st (-1)).2)))) rfl ?_)
                refine Rest.phaseA (fun w_ => Has E w_ [[Hp.one b2 (.cells #[(.int .i64 h.seq), (.int .i64 h.ep), (.int .i64 h.cut), (.int .i64 h.st), (.int .i64 h.mrk)] 23 (0, 0))]]) 16 19 3 rfl (by decide) (by kernel_rfl) ?_
                by_cases h187 : (opS (Dv.mk (Pw.mk false false 0 0) la3 []) (kk : Int)).tail ≠ (chainS h.ep h.cut (acc.length + 1) acc h.st (-1)).2
                ·
                 exact absurd (show (opC (Dv.mk (Pw.mk false false 0 0) la3 []) (kk : Int)).2 = _ by rw [← hN_]; rw [hop_]) h187
                ·
                 refine a_on 16 rfl (by kernel_rfl) 181 rfl (cF h187) (fun w_ h_ => zd (v := (.pointer (some ⟨sb153, 0, none⟩))) rfl ⟨rfl, rfl⟩) ?_
                 refine a_on 18 rfl (by kernel_rfl) 181 rfl (cF h187) (fun w_ h_ => zC (cs := [(.int .i64 h.seq), (.int .i64 h.ep), (.int .i64 h.cut), (.int .i64 h.st), (.int .i64 h.mrk)]) Tryz.underlying23 rfl zR e117_5 h_ (zh 0 rfl) (CellsAt.one rfl) ⟨rfl, rfl⟩) ?_
                 have hH188 : Has E w185 [[Hp.one b2 (.cells #[(.int .i64 h.seq), (.int .i64 h.ep), (.int .i64 h.cut), (.int .i64 h.st), (.int .i64 h.mrk)] 23 (0, 0))]] := (hH184.front 9 rfl).first 1 rfl
                 refine a_won 17 rfl (by kernel_rfl) hH188 181 rfl (cF h187) (zk (vs := #[(.pointer (some ⟨sb153, 0, none⟩))]) ca19 rfl (zF rfl) (shead_c (v := (opS (Dv.mk (Pw.mk false false 0 0) la3 []) (kk : Int))) (db := db30) (ab := ab154) hH184.all (hs163.rd.mono (zh 1 rfl))) ?_)
                 rintro _ w191 ⟨rfl, hX189⟩
                 refine ⟨_, rfl, ?_⟩
                 have hH190 := hX189.of_all
                 have hH192 : Has E w191 [[Hp.one b2 (.cells #[(.int .i64 h.seq), (.int .i64 h.ep), (.int .i64 h.cut), (.int .i64 h.st), (.int .i64 h.mrk)] 23 (0, 0))]] := (hH190.front 9 rfl).first 1 rfl
                 refine zQ (by kernel_rfl) hH192 ?_
                 refine r_on 19 rfl (by kernel_rfl) 181 rfl (cF h187) (o_neq23 (((opS (Dv.mk (Pw.mk false false 0 0) la3 []) (kk : Int)).hd).seq) (((opS (Dv.mk (Pw.mk false false 0 0) la3 []) (kk : Int)).hd).ep) (((opS (Dv.mk (Pw.mk false false 0 0) la3 []) (kk : Int)).hd).cut) (((opS (Dv.mk (Pw.mk false false 0 0) la3 []) (kk : Int)).hd).st) (((opS (Dv.mk (Pw.mk false false 0 0) la3 []) (kk : Int)).hd).mrk) h.seq h.ep h.cut h.st h.mrk rfl rfl ?_)
                 refine zP 20 rfl (by kernel_rfl) (zm (u := (.bool (!(eqv23 (((opS (Dv.mk (Pw.mk false false 0 0) la3 []) (kk : Int)).hd).seq) (((opS (Dv.mk (Pw.mk false false 0 0) la3 []) (kk : Int)).hd).ep) (((opS (Dv.mk (Pw.mk false false 0 0) la3 []) (kk : Int)).hd).cut) (((opS (Dv.mk (Pw.mk false false 0 0) la3 []) (kk : Int)).hd).st) (((opS (Dv.mk (Pw.mk false false 0 0) la3 []) (kk : Int)).hd).mrk) h.seq h.ep h.cut h.st h.mrk)))) ((rfl : _ = _).trans (cF h187)) rfl ?_)
                 refine Rest.done (by kernel_rfl) ?_
                 refine zc (hK177 _ _ ?_)
                 refine zX rfl (fun h193 => ?_) (fun h193 => ?_)
                 ·
                  have h193_n : (eqv23 (((opS (Dv.mk (Pw.mk false false 0 0) la3 []) (kk : Int)).hd).seq) (((opS (Dv.mk (Pw.mk false false 0 0) la3 []) (kk : Int)).hd).ep) (((opS (Dv.mk (Pw.mk false false 0 0) la3 []) (kk : Int)).hd).cut) (((opS (Dv.mk (Pw.mk false false 0 0) la3 []) (kk : Int)).hd).st) (((opS (Dv.mk (Pw.mk false false 0 0) la3 []) (kk : Int)).hd).mrk) h.seq h.ep h.cut h.st h.mrk) = false := by first | simpa using h193 | exact Bool.of_not_eq_true (fun g_ => by rw [g_] at h193; cases h193)
                  exact absurd h193 (by rw [show (eqv23 (((opS (Dv.mk (Pw.mk false false 0 0) la3 []) (kk : Int)).hd).seq) (((opS (Dv.mk (Pw.mk false false 0 0) la3 []) (kk : Int)).hd).ep) (((opS (Dv.mk (Pw.mk false false 0 0) la3 []) (kk : Int)).hd).cut) (((opS (Dv.mk (Pw.mk false false 0 0) la3 []) (kk : Int)).hd).st) (((opS (Dv.mk (Pw.mk false false 0 0) la3 []) (kk : Int)).hd).mrk) h.seq h.ep h.cut h.st h.mrk) = true from (eqv23_iff _ _ _ _ _ _ _ _ _ _).2 ⟨by show (ldH _ la3 0).seq = _; rw [hHd_], by show (ldH _ la3 0).ep = _; rw [hHd_], by show (ldH _ la3 0).cut = _; rw [hHd_], by show (ldH _ la3 0).st = _; rw [hHd_], by show (ldH _ la3 0).mrk = _; rw [hHd_]⟩]; decide)
                 ·
                  have h193_n : (eqv23 (((opS (Dv.mk (Pw.mk false false 0 0) la3 []) (kk : Int)).hd).seq) (((opS (Dv.mk (Pw.mk false false 0 0) la3 []) (kk : Int)).hd).ep) (((opS (Dv.mk (Pw.mk false false 0 0) la3 []) (kk : Int)).hd).cut) (((opS (Dv.mk (Pw.mk false false 0 0) la3 []) (kk : Int)).hd).st) (((opS (Dv.mk (Pw.mk false false 0 0) la3 []) (kk : Int)).hd).mrk) h.seq h.ep h.cut h.st h.mrk) = true := by first | simpa using h193 | exact Bool.of_not_eq_false (fun g_ => by rw [g_] at h193; cases h193)
                  refine wp_skip ?_
                  refine zc (hK176 _ _ ?_)
                  refine wp_seq_k fun K194 hK194 => ?_
                  refine wp_seq_k fun K195 hK195 => ?_
                  refine zb ?_
                  refine za (ze (v := (.int .i64 0)) rfl ?_)
                  refine zf ?_
                  refine zc (hK195 _ _ ?_)
                  refine wp_block ?_
                  let I197 : Nat → (Nat → Value) → World → Prop := fun n__ r__ w__ => ∃ (m : Nat), n__ = ((chainS h.ep h.cut (acc.length + 1) acc h.st (-1)).1).length - m ∧ Has E w__ [s171, ss156, [Hp.one ab154 (.cells #[(.pointer (some ⟨db30, 0, none⟩)), (.int .i64 2), (.int .i64 (kk : Int))] 265 (0, 0))], sg155, [Hp.one pb31 (.cells #[(.bool (Dv.mk (Pw.mk false false 0 0) la3 []).p.off), (.bool (Dv.mk (Pw.mk false false 0 0) la3 []).p.armed), (.int .i64 (Dv.mk (Pw.mk false false 0 0) la3 []).p.left), (.int .i64 (Dv.mk (Pw.mk false false 0 0) la3 []).p.uses)] 145 (0, 0))], s145, sw, sb, s59, [Hp.one b2 (.cells #[(.int .i64 h.seq), (.int .i64 h.ep), (.int .i64 h.cut), (.int .i64 h.st), (.int .i64 h.mrk)] 23 (0, 0))], R] ∧ (m ≤ ((chainS h.ep h.cut (acc.length + 1) acc h.st (-1)).1).length) ∧ r__ 0 = (.int .u8 nn) ∧ r__ 1 = (.agg #[(.int .i64 h.seq), (.int .i64 h.ep), (.int .i64 h.cut), (.int .i64 h.st), (.int .i64 h.mrk)]) ∧ r__ 2 = (.int .i64 first) ∧ r__ 3 = (S s) ∧ r__ 5 = (.pointer (some ⟨b2, 0, none⟩)) ∧ r__ 9 = (.int .i64 (kk : Int)) ∧ r__ 10 = (.pointer (some ⟨db30, 0, none⟩)) ∧ r__ 11 = (S (hdL h)) ∧ r__ 12 = v66 ∧ r__ 13 = (.int .i64 (i : Int)) ∧ r__ 14 = (.int .i64 (j : Int)) ∧ r__ 15 = wv ∧ r__ 16 = (.int .i64 (q : Int)) ∧ r__ 17 = v144 ∧ r__ 18 = (.int .i64 ((chainS h.ep h.cut (acc.length + 1) acc h.st (-1)).2)) ∧ r__ 19 = (.pointer (some ⟨sb153, 0, none⟩)) ∧ r__ 20 = (.int .i64 (0 : Int)) ∧ r__ 21 = v170 ∧ r__ 22 = (.int .i64 (m : Int)) ∧ r__ 43 = (.bool false) ∧ r__ 56 = (.bool (decide ((hdL h) = ([] : List UInt8)))) ∧ r__ 63 = (.bool (decide (putE ((List.replicate (kk + 2) blankS).length) (h.seq % 2) (hdL h) ≠ 0))) ∧ r__ 72 = (.bool (decide ((i : Int) < (s.length : Int)))) ∧ r__ 88 = (.bool (decide ((j : Int) < (kk : Int)))) ∧ r__ 106 = (.bool (decide ((q : Int) < 64 * (kk : Int)))) ∧ r__ 157 = (.bool (decide ((chainS h.ep h.cut (acc.length + 1) acc h.st (-1)).2 < h.cut))) ∧ r__ 186 = (.bool (!(eqv23 (((opS (Dv.mk (Pw.mk false false 0 0) la3 []) (kk : Int)).hd).seq) (((opS (Dv.mk (Pw.mk false false 0 0) la3 []) (kk : Int)).hd).ep) (((opS (Dv.mk (Pw.mk false false 0 0) la3 []) (kk : Int)).hd).cut) (((opS (Dv.mk (Pw.mk false false 0 0) la3 []) (kk : Int)).hd).st) (((opS (Dv.mk (Pw.mk false false 0 0) la3 []) (kk : Int)).hd).mrk) h.seq h.ep h.cut h.st h.mrk)))
                  refine zT I197 _ ⟨0, rfl, hH190, Nat.zero_le _, e117_0, e117_1, e117_2, e117_3, e117_5, e117_9, e117_10, e117_11, e117_12, e117_13, e117_14, e117_15, e117_16, rfl, rfl, rfl, rfl, rfl, rfl, e117_43, e117_56, e117_63, e117_72, e117_88, rfl, rfl, rfl⟩ ?_
                  rintro n_ r200 w198 ⟨m, rfl, hH199, hm, e196_0, e196_1, e196_2, e196_3, e196_5, e196_9, e196_10, e196_11, e196_12, e196_13, e196_14, e196_15, e196_16, e196_17, e196_18, e196_19, e196_20, e196_21, e196_22, e196_43, e196_56, e196_63, e196_72, e196_88, e196_106, e196_157, e196_186⟩
                  refine wp_seq_k fun K201 hK201 => ?_
                  refine wp_seq_k fun K202 hK202 => ?_
                  refine zb ?_
                  refine za (zd (v := (.int .i64 (m : Int))) e196_22 ?_)
                  refine za (zd (v := v144) e196_17 ?_)
                  refine za (zY Tryz.underlying31 rfl ho146.sl ?_)
                  refine za (zL (a := (m : Int)) (b := ((((chainS h.ep h.cut (acc.length + 1) acc h.st (-1)).1).length : Nat) : Int)) rfl rfl ?_)
                  refine zf ?_
                  refine zc (hK202 _ _ ?_)
                  refine zt rfl (fun h203 => ?_) (fun h203 => ?_)
                  ·
                   refine wp_skip ?_
                   refine zc (hK201 _ _ ?_)
                   refine wp_seq_k fun K204 hK204 => ?_
                   refine wp_block ?_
                   refine wp_seq_k fun K205 hK205 => ?_
                   refine Rest.region mixed (by kernel_rfl) ?_
                   have hH206 : Has E { w198 with drawn := w198.drawn + 1 } [s171, ss156, [Hp.one ab154 (.cells #[(.pointer (some ⟨db30, 0, none⟩)), (.int .i64 2), (.int .i64 (kk : Int))] 265 (0, 0))], sg155, [Hp.one pb31 (.cells #[(.bool (Dv.mk (Pw.mk false false 0 0) la3 []).p.off), (.bool (Dv.mk (Pw.mk false false 0 0) la3 []).p.armed), (.int .i64 (Dv.mk (Pw.mk false false 0 0) la3 []).p.left), (.int .i64 (Dv.mk (Pw.mk false false 0 0) la3 []).p.uses)] 145 (0, 0))], s145, sw, sb, s59, [Hp.one b2 (.cells #[(.int .i64 h.seq), (.int .i64 h.ep), (.int .i64 h.cut), (.int .i64 h.st), (.int .i64 h.mrk)] 23 (0, 0))], R] := Has0.drew hH199 _
                   refine Rest.phaseA (fun w_ => Has E w_ [s171, s145]) 0 20 20 rfl (by decide) (by kernel_rfl) ?_
                   refine zr 0 rfl (by kernel_rfl) (fun w_ h_ => zd (v := v170) e196_21 ⟨rfl, rfl⟩) ?_
                   refine zr 1 rfl (by kernel_rfl) (fun w_ h_ => zd (v := (.int .i64 (m : Int))) e196_22 ⟨rfl, rfl⟩) ?_
                   obtain ⟨x210, hx211⟩ : ∃ x_, ((opS (Dv.mk (Pw.mk false false 0 0) la3 []) (kk : Int)).l.drop (posE (opS (Dv.mk (Pw.mk false false 0 0) la3 []) (kk : Int)).l (-1)).toNat)[((m : Int)).toNat]? = some x_ := zM (by omega)
                   obtain ⟨b207, o208, hc209, ho212⟩ := ix_exF enC_len Tryz.underlying37 ti42 ho172.sl (by omega) hx211
                   refine zr 2 rfl (by kernel_rfl) (fun w_ h_ => ho212 rfl rfl ⟨rfl, rfl⟩) ?_
                   refine zr 3 rfl (by kernel_rfl) (fun w_ h_ => zC (cs := [(.int .i64 x210.gsn), (.int .i64 x210.at_), (S x210.data)]) Tryz.underlying42 rfl ti42 rfl h_ (zh 0 rfl) hc209 ⟨rfl, rfl⟩) ?_
                   refine zr 4 rfl (by kernel_rfl) (fun w_ h_ => zd (v := v144) e196_17 ⟨rfl, rfl⟩) ?_
                   refine zr 5 rfl (by kernel_rfl) (fun w_ h_ => zd (v := (.int .i64 (m : Int))) e196_22 ⟨rfl, rfl⟩) ?_
                   obtain ⟨x216, hx217⟩ : ∃ x_, ((chainS h.ep h.cut (acc.length + 1) acc h.st (-1)).1)[((m : Int)).toNat]? = some x_ := zM (by omega)
                   obtain ⟨b213, o214, hc215, ho218⟩ := ix_exF frC_len Tryz.underlying31 ti44 ho146.sl (by omega) hx217
                   refine zr 6 rfl (by kernel_rfl) (fun w_ h_ => ho218 rfl rfl ⟨rfl, rfl⟩) ?_
                   refine zr 7 rfl (by kernel_rfl) (fun w_ h_ => zg (k := o214 + 2) (fun _ => by kernel_rfl) rfl ⟨rfl, rfl⟩) ?_
                   refine zr 8 rfl (by kernel_rfl) (fun w_ h_ => zj (v := (.int .i64 x216.gsn)) Tryz.underlying3 rfl rfl h_ (zh 1 rfl) (CellsAt.field (k := 2) (ds := [(.int .i64 x216.gsn)]) hc215 rfl) ⟨rfl, rfl⟩) ?_
                   refine zr 9 rfl (by kernel_rfl) (fun w_ h_ => zd (v := v144) e196_17 ⟨rfl, rfl⟩) ?_
                   refine zr 10 rfl (by kernel_rfl) (fun w_ h_ => zd (v := (.int .i64 (m : Int))) e196_22 ⟨rfl, rfl⟩) ?_
                   obtain ⟨b219, o220, hc221, ho222⟩ := ix_exF frC_len Tryz.underlying31 ti44 ho146.sl (by omega) hx217
                   refine zr 11 rfl (by kernel_rfl) (fun w_ h_ => ho222 rfl rfl ⟨rfl, rfl⟩) ?_
                   refine zr 12 rfl (by kernel_rfl) (fun w_ h_ => zg (k := o220 + 1) (fun _ => by kernel_rfl) rfl ⟨rfl, rfl⟩) ?_
                   refine zr 13 rfl (by kernel_rfl) (fun w_ h_ => zj (v := (.int .i64 x216.pl)) Tryz.underlying3 rfl rfl h_ (zh 1 rfl) (CellsAt.field (k := 1) (ds := [(.int .i64 x216.pl)]) hc221 rfl) ⟨rfl, rfl⟩) ?_
                   refine zr 14 rfl (by kernel_rfl) (fun w_ h_ => zd (v := v144) e196_17 ⟨rfl, rfl⟩) ?_
                   refine zr 15 rfl (by kernel_rfl) (fun w_ h_ => zd (v := (.int .i64 (m : Int))) e196_22 ⟨rfl, rfl⟩) ?_
                   obtain ⟨b223, o224, hc225, ho226⟩ := ix_exF frC_len Tryz.underlying31 ti44 ho146.sl (by omega) hx217
                   refine zr 16 rfl (by kernel_rfl) (fun w_ h_ => ho226 rfl rfl ⟨rfl, rfl⟩) ?_
                   refine zr 17 rfl (by kernel_rfl) (fun w_ h_ => zg (k := o224 + 3) (fun _ => by kernel_rfl) rfl ⟨rfl, rfl⟩) ?_
                   refine zr 18 rfl (by kernel_rfl) (fun w_ h_ => zj (v := (S x216.data)) Tryz.underlying9 rfl rfl h_ (zh 1 rfl) (CellsAt.field (k := 3) (ds := [(S x216.data)]) hc225 rfl) ⟨rfl, rfl⟩) ?_
                   refine zr 19 rfl (by kernel_rfl) (fun w_ h_ => zK (v := (.agg #[(.int .i64 x216.gsn), (.int .i64 x216.pl), (S x216.data)])) (fun _ => by kernel_rfl) ⟨rfl, rfl⟩) ?_
                   have hH227 : Has E { w198 with drawn := w198.drawn + 1 } [s171, s145] := ((hH206.front 5 rfl).front 1 rfl).first 2 rfl
                   refine zQ (by kernel_rfl) hH227 ?_
                   refine zP 20 rfl (by kernel_rfl) (o_neq42 x210.gsn x210.at_ x210.data x216.gsn x216.pl x216.data rfl rfl ?_)
                   refine Rest.done (by kernel_rfl) ?_
                   refine zc (hK205 _ _ ?_)
                   refine zX rfl (fun h228 => ?_) (fun h228 => ?_)
                   ·
                    have h228_n : (eqv42 x210.gsn x210.at_ x210.data x216.gsn x216.pl x216.data) = false := by first | simpa using h228 | exact Bool.of_not_eq_true (fun g_ => by rw [g_] at h228; cases h228)
                    exact absurd h228 (by have hx_ := hx211; rw [hgt_, List.getElem?_map, show (chainS h.ep h.cut (acc.length + 1) acc h.st (-1)).1[(m : Int).toNat]? = some _ from hx217] at hx_; have e_ : entF x216 = x210 := Option.some.inj hx_; rw [← e_]; rw [show (eqv42 (entF x216).gsn (entF x216).at_ (entF x216).data x216.gsn x216.pl x216.data) = true from (eqv42_iff _ _ _ _ _ _).2 ⟨rfl, rfl, rfl⟩]; decide)
                   ·
                    have h228_n : (eqv42 x210.gsn x210.at_ x210.data x216.gsn x216.pl x216.data) = true := by first | simpa using h228 | exact Bool.of_not_eq_false (fun g_ => by rw [g_] at h228; cases h228)
                    refine wp_skip ?_
                    refine zG ?_
                    refine zc (hK204 _ _ ?_)
                    refine zb ?_
                    refine za (zd (v := (.int .i64 (m : Int))) e196_22 ?_)
                    refine za (zH (a := (m : Int)) (b := 1) rfl rfl (w64 (by omega) (by omega)) ?_)
                    refine za (ze (v := (.int .i64 ((m : Int) + 1))) rfl ?_)
                    refine zf ?_
                    refine zc ⟨((chainS h.ep h.cut (acc.length + 1) acc h.st (-1)).1).length - (m + 1), _, rfl, ?_, ?_⟩
                    · omega
                    · exact ⟨(m + 1), rfl, hH206, (by omega), e196_0, e196_1, e196_2, e196_3, e196_5, e196_9, e196_10, e196_11, e196_12, e196_13, e196_14, e196_15, e196_16, e196_17, e196_18, e196_19, e196_20, e196_21, rfl, e196_43, e196_56, e196_63, e196_72, e196_88, e196_106, e196_157, e196_186⟩
                  ·
                   refine wp_exit ?_
                   refine zx (zx (x_in (?_)))
                   refine zc (hK194 _ _ ?_)
                   refine wp_seq_k fun K229 hK229 => ?_
                   refine zb ?_
                   refine za (ze (v := (.bool true)) rfl ?_)
                   refine zf ?_
                   refine zc (hK229 _ _ ?_)
                   refine wp_ret ?_
                   refine zq Tryz.results3  (v := (.bool true)) rfl ?_
                   have hH230 : Has E w198 [R] := (hH199.front 10 rfl).first 1 rfl
                   exact ⟨by first | rfl | (rw [decide_eq_true rfl]) | (rw [decide_eq_true ho_]), hH230⟩
          ·
           rw [hop_, hHd2_] at hb_
           have hb2_ : (h.ep = 0 ∨ h.cut < h.st ∨ (chainS h.ep h.cut (acc.length + 1) acc h.st (-1)).2 < h.cut) := hb_
           refine za (zk (vs := #[(.pointer (some ⟨db30, 0, none⟩))]) ca16 rfl (zF rfl) (sopen_err (d := (Dv.mk (Pw.mk false false 0 0) la3 [])) ((hH151.front 5 rfl).front 3 rfl).all2 hd152 (by show la3.length ≤ 4096; omega) (by show 3 ≤ la3.length; omega) rfl hpk.2.1 rfl (hg.mono (zh 5 rfl)) (by rw [ho_]; decide)) ?_)
           rintro _ w233 ⟨rfl, hX231⟩
           refine ⟨_, rfl, ?_⟩
           have hH232 : Has E w233 [sg3, [Hp.one pb31 (.cells #[(.bool (Dv.mk (Pw.mk false false 0 0) la3 []).p.off), (.bool (Dv.mk (Pw.mk false false 0 0) la3 []).p.armed), (.int .i64 (Dv.mk (Pw.mk false false 0 0) la3 []).p.left), (.int .i64 (Dv.mk (Pw.mk false false 0 0) la3 []).p.uses)] 145 (0, 0))], s145, sw, sb, s59, [Hp.one b2 (.cells #[(.int .i64 h.seq), (.int .i64 h.ep), (.int .i64 h.cut), (.int .i64 h.st), (.int .i64 h.mrk)] 23 (0, 0))], R] := hX231.of_all2
           refine za (zd (v := (.tuple #[(.pointer none), (.int .i64 (opE (Dv.mk (Pw.mk false false 0 0) la3 []) ((((Dv.mk (Pw.mk false false 0 0) la3 []).la.length : Nat) : Int) - 2)))])) rfl ?_)
           refine za (zp (v := (.pointer none)) rfl rfl ?_)
           refine za (zp (v := (.int .i64 (opE (Dv.mk (Pw.mk false false 0 0) la3 []) ((((Dv.mk (Pw.mk false false 0 0) la3 []).la.length : Nat) : Int) - 2)))) rfl rfl ?_)
           refine za (ze (v := (.pointer none)) rfl ?_)
           refine za (ze (v := (.int .i64 (opE (Dv.mk (Pw.mk false false 0 0) la3 []) ((((Dv.mk (Pw.mk false false 0 0) la3 []).la.length : Nat) : Int) - 2)))) rfl ?_)
           refine zf ?_
           refine zc (hK150 _ _ ?_)
           refine wp_seq_k fun K234 hK234 => ?_
           refine wp_seq_k fun K235 hK235 => ?_
           refine zb ?_
           refine za (zg (k := 1) (fun _ => by kernel_rfl) e117_5 ?_)
           refine za (zj (v := (.int .i64 h.ep)) Tryz.underlying3 rfl rfl hH232 (zh 6 rfl) (CellsAt.one rfl) ?_)
           refine za (yd (a := h.ep) (b := 0) rfl rfl ?_)
           refine za (zd (v := (.bool (decide (h.ep = 0)))) rfl ?_)
           by_cases h236 : h.ep = 0
           ·
            refine zi (b' := true) 145 rfl (cT h236) rfl ?_
            refine zi (b' := true) 145 rfl (cT h236) rfl ?_
            refine zi (b' := true) 145 rfl (cT h236) rfl ?_
            refine zi (b' := true) 145 rfl (cT h236) rfl ?_
            refine zi (b' := true) 145 rfl (cT h236) rfl ?_
            refine za (zo (u := (.bool true)) ((rfl : _ = _).trans (cT h236)) rfl ?_)
            refine za (zd (v := (.bool true)) rfl ?_)
            refine zi (b' := true) 152 rfl rfl rfl ?_
            refine zi (b' := true) 152 rfl rfl rfl ?_
            refine zi (b' := true) 152 rfl rfl rfl ?_
            refine zi (b' := true) 152 rfl rfl rfl ?_
            refine za (zo (u := (.bool true)) rfl rfl ?_)
            refine zf ?_
            refine zc (hK235 _ _ ?_)
            refine zN rfl rfl ?_
            refine wp_seq_k fun K237 hK237 => ?_
            refine zb ?_
            refine za (zd (v := (.pointer none)) rfl ?_)
            refine za (o_pnil (p := none) Tryz.underlying34 rfl rfl ?_)
            refine za (zd (v := (.bool true)) rfl ?_)
            refine zn 160 rfl rfl (zd (v := (.int .i64 (opE (Dv.mk (Pw.mk false false 0 0) la3 []) ((((Dv.mk (Pw.mk false false 0 0) la3 []).la.length : Nat) : Int) - 2)))) rfl ?_)
            refine zn 160 rfl rfl (yd (a := (opE (Dv.mk (Pw.mk false false 0 0) la3 []) ((((Dv.mk (Pw.mk false false 0 0) la3 []).la.length : Nat) : Int) - 2))) (b := 9) rfl rfl ?_)
            refine za (zo (u := (.bool (decide ((opE (Dv.mk (Pw.mk false false 0 0) la3 []) ((((Dv.mk (Pw.mk false false 0 0) la3 []).la.length : Nat) : Int) - 2)) = 9)))) rfl rfl ?_)
            refine za (ze (v := (.bool (decide ((opE (Dv.mk (Pw.mk false false 0 0) la3 []) ((((Dv.mk (Pw.mk false false 0 0) la3 []).la.length : Nat) : Int) - 2)) = 9)))) rfl ?_)
            refine zf ?_
            refine zc (hK237 _ _ ?_)
            refine wp_ret ?_
            refine zv (zq Tryz.results3  (v := (.bool (decide ((opE (Dv.mk (Pw.mk false false 0 0) la3 []) ((((Dv.mk (Pw.mk false false 0 0) la3 []).la.length : Nat) : Int) - 2)) = 9)))) rfl ?_)
            have hH238 : Has E w233 [R] := (hH232.front 7 rfl).first 1 rfl
            exact ⟨by first | rfl | (rw [decide_eq_true rfl]) | (rw [decide_eq_true ho_]), hH238⟩
           ·
            refine zn 145 rfl (cF h236) (zg (k := 3) (fun _ => by kernel_rfl) e117_5 ?_)
            refine zn 145 rfl (cF h236) (zj (v := (.int .i64 h.st)) Tryz.underlying3 rfl rfl hH232 (zh 6 rfl) (CellsAt.one rfl) ?_)
            refine zn 145 rfl (cF h236) (zg (k := 2) (fun _ => by kernel_rfl) e117_5 ?_)
            refine zn 145 rfl (cF h236) (zj (v := (.int .i64 h.cut)) Tryz.underlying3 rfl rfl hH232 (zh 6 rfl) (CellsAt.one rfl) ?_)
            refine zn 145 rfl (cF h236) (o_gtr (a := h.st) (b := h.cut) rfl rfl ?_)
            refine za (zm (u := (.bool (decide (h.cut < h.st)))) ((rfl : _ = _).trans (cF h236)) rfl ?_)
            refine za (zd (v := (.bool (decide (h.cut < h.st)))) rfl ?_)
            by_cases h239 : h.cut < h.st
            ·
             refine zi (b' := true) 152 rfl (cT h239) rfl ?_
             refine zi (b' := true) 152 rfl (cT h239) rfl ?_
             refine zi (b' := true) 152 rfl (cT h239) rfl ?_
             refine zi (b' := true) 152 rfl (cT h239) rfl ?_
             refine za (zo (u := (.bool true)) ((rfl : _ = _).trans (cT h239)) rfl ?_)
             refine zf ?_
             refine zc (hK235 _ _ ?_)
             refine zN rfl rfl ?_
             refine wp_seq_k fun K240 hK240 => ?_
             refine zb ?_
             refine za (zd (v := (.pointer none)) rfl ?_)
             refine za (o_pnil (p := none) Tryz.underlying34 rfl rfl ?_)
             refine za (zd (v := (.bool true)) rfl ?_)
             refine zn 160 rfl rfl (zd (v := (.int .i64 (opE (Dv.mk (Pw.mk false false 0 0) la3 []) ((((Dv.mk (Pw.mk false false 0 0) la3 []).la.length : Nat) : Int) - 2)))) rfl ?_)
             refine zn 160 rfl rfl (yd (a := (opE (Dv.mk (Pw.mk false false 0 0) la3 []) ((((Dv.mk (Pw.mk false false 0 0) la3 []).la.length : Nat) : Int) - 2))) (b := 9) rfl rfl ?_)
             refine za (zo (u := (.bool (decide ((opE (Dv.mk (Pw.mk false false 0 0) la3 []) ((((Dv.mk (Pw.mk false false 0 0) la3 []).la.length : Nat) : Int) - 2)) = 9)))) rfl rfl ?_)
             refine za (ze (v := (.bool (decide ((opE (Dv.mk (Pw.mk false false 0 0) la3 []) ((((Dv.mk (Pw.mk false false 0 0) la3 []).la.length : Nat) : Int) - 2)) = 9)))) rfl ?_)
             refine zf ?_
             refine zc (hK240 _ _ ?_)
             refine wp_ret ?_
             refine zv (zq Tryz.results3  (v := (.bool (decide ((opE (Dv.mk (Pw.mk false false 0 0) la3 []) ((((Dv.mk (Pw.mk false false 0 0) la3 []).la.length : Nat) : Int) - 2)) = 9)))) rfl ?_)
             have hH241 : Has E w233 [R] := (hH232.front 7 rfl).first 1 rfl
             exact ⟨by first | rfl | (rw [decide_eq_true rfl]) | (rw [decide_eq_true ho_]), hH241⟩
            ·
             refine zn 152 rfl (cF h239) (zd (v := (.int .i64 ((chainS h.ep h.cut (acc.length + 1) acc h.st (-1)).2))) rfl ?_)
             refine zn 152 rfl (cF h239) (zg (k := 2) (fun _ => by kernel_rfl) e117_5 ?_)
             refine zn 152 rfl (cF h239) (zj (v := (.int .i64 h.cut)) Tryz.underlying3 rfl rfl hH232 (zh 6 rfl) (CellsAt.one rfl) ?_)
             refine zn 152 rfl (cF h239) (zL (a := (chainS h.ep h.cut (acc.length + 1) acc h.st (-1)).2) (b := h.cut) rfl rfl ?_)
             refine za (zm (u := (.bool (decide ((chainS h.ep h.cut (acc.length + 1) acc h.st (-1)).2 < h.cut)))) ((rfl : _ = _).trans (cF h239)) rfl ?_)
             refine zf ?_
             refine zc (hK235 _ _ ?_)
             refine zt rfl (fun h242 => ?_) (fun h242 => ?_)
             ·
              refine wp_seq_k fun K243 hK243 => ?_
              refine zb ?_
              refine za (zd (v := (.pointer none)) rfl ?_)
              refine za (o_pnil (p := none) Tryz.underlying34 rfl rfl ?_)
              refine za (zd (v := (.bool true)) rfl ?_)
              refine zn 160 rfl rfl (zd (v := (.int .i64 (opE (Dv.mk (Pw.mk false false 0 0) la3 []) ((((Dv.mk (Pw.mk false false 0 0) la3 []).la.length : Nat) : Int) - 2)))) rfl ?_)
              refine zn 160 rfl rfl (yd (a := (opE (Dv.mk (Pw.mk false false 0 0) la3 []) ((((Dv.mk (Pw.mk false false 0 0) la3 []).la.length : Nat) : Int) - 2))) (b := 9) rfl rfl ?_)
              refine za (zo (u := (.bool (decide ((opE (Dv.mk (Pw.mk false false 0 0) la3 []) ((((Dv.mk (Pw.mk false false 0 0) la3 []).la.length : Nat) : Int) - 2)) = 9)))) rfl rfl ?_)
              refine za (ze (v := (.bool (decide ((opE (Dv.mk (Pw.mk false false 0 0) la3 []) ((((Dv.mk (Pw.mk false false 0 0) la3 []).la.length : Nat) : Int) - 2)) = 9)))) rfl ?_)
              refine zf ?_
              refine zc (hK243 _ _ ?_)
              refine wp_ret ?_
              refine zv (zq Tryz.results3  (v := (.bool (decide ((opE (Dv.mk (Pw.mk false false 0 0) la3 []) ((((Dv.mk (Pw.mk false false 0 0) la3 []).la.length : Nat) : Int) - 2)) = 9)))) rfl ?_)
              have hH244 : Has E w233 [R] := (hH232.front 7 rfl).first 1 rfl
              exact ⟨by first | rfl | (rw [decide_eq_true rfl]) | (rw [decide_eq_true ho_]), hH244⟩
             ·
              exfalso; omega
end Go.Q
namespace Go.Q
theorem arr_cells {H : Type} {enc : TypeId × Value → H} {P : Program} {w : World} {base : Nat} {spare : Nat → Bool} {held : Bool} {fuel n : Nat} {t e : TypeId} {k : IntKind} {cs : List Value} {l : List Int} {p : List MemPlace}
  (ht : P.underlying t = some (.array n e)) (he : P.underlying e = some (.int k)) (hc : P.cellsOf e = 1) (hl : l.length = n)
  (h : DataW.trod enc P w base spare held fuel t cs = some (.agg (l.map fun z => (DataW.lit (Lit.int k z) : DataW H)), p)) : ∀ (i : Nat) (z : Int), l[i]? = some z → cs[i]? = some (Value.int k z) := by
 intro i z hz
 obtain ⟨xs, m, _, hx, _, hn, hel⟩ := DataW.trod_array ht h
 simp only [Prod.mk.injEq, DataW.agg.injEq] at hx
 have hi : i < n := by rw [← hl]; exact (List.getElem?_eq_some_iff.1 hz).1
 have h1 := hel i hi
 rw [hc, Nat.mul_one, List.getElem?_eq_getElem (by omega)] at h1
 obtain ⟨r, e1, e2, _⟩ := DataW.trod_int he h1
 have e3 : (xs.map (·.1))[i]? = some (DataW.lit (Lit.int k z)) := by rw [← hx.1, List.getElem?_map, hz]; rfl
 rw [List.getElem?_map, List.getElem?_eq_getElem (by omega), Option.map_some] at e3
 rw [e2] at e3
 have e4 : r = z := by simpa using e3
 subst e4
 have e5 : (List.take 1 (List.drop i cs))[0]? = some (.int k r) := by rw [e1]; rfl
 rw [List.getElem?_take, if_pos (by omega), List.getElem?_drop] at e5
 simpa using e5
end Go.Q
namespace Go.Q
open Go.Proofs
set_option linter.unusedVariables false
set_option maxRecDepth 100000
attribute [local irreducible] wpList OK Code.wp
theorem rd_head {H : Type} {enc : TypeId × Value → H} {w : World} {cs : List Value} (h : Rd enc Tryz.prog w 23 cs) : ∃ a : Hd, cs = hdC a ∧ True := by
 obtain ⟨hl, hf⟩ := rd_struct Tryz.underlying23 h
 have hl : cs.length = 5 := hl.trans (by kernel_rfl)
 obtain ⟨c0, c1, c2, c3, c4, rfl⟩ : ∃ c0 c1 c2 c3 c4, cs = [c0, c1, c2, c3, c4] := by
  match cs, hl with
  | [c0, c1, c2, c3, c4], _ => exact ⟨c0, c1, c2, c3, c4, rfl⟩
 have f0_6 : Rd enc Tryz.prog w 3 [c0] := rd_field (i := 0) (k := 1) hf rfl rfl (by kernel_rfl) rfl
 obtain ⟨n0, e0, b0⟩ := rd_i64 Tryz.underlying3 f0_6
 obtain rfl := (List.cons.inj e0).1
 have f1_9 : Rd enc Tryz.prog w 3 [c1] := rd_field (i := 1) (k := 1) hf rfl rfl (by kernel_rfl) rfl
 obtain ⟨n1, e1, b1⟩ := rd_i64 Tryz.underlying3 f1_9
 obtain rfl := (List.cons.inj e1).1
 have f2_12 : Rd enc Tryz.prog w 3 [c2] := rd_field (i := 2) (k := 1) hf rfl rfl (by kernel_rfl) rfl
 obtain ⟨n2, e2, b2⟩ := rd_i64 Tryz.underlying3 f2_12
 obtain rfl := (List.cons.inj e2).1
 have f3_15 : Rd enc Tryz.prog w 3 [c3] := rd_field (i := 3) (k := 1) hf rfl rfl (by kernel_rfl) rfl
 obtain ⟨n3, e3, b3⟩ := rd_i64 Tryz.underlying3 f3_15
 obtain rfl := (List.cons.inj e3).1
 have f4_18 : Rd enc Tryz.prog w 3 [c4] := rd_field (i := 4) (k := 1) hf rfl rfl (by kernel_rfl) rfl
 obtain ⟨n4, e4, b4⟩ := rd_i64 Tryz.underlying3 f4_18
 obtain rfl := (List.cons.inj e4).1
 exact ⟨⟨n0, n1, n2, n3, n4⟩, rfl, trivial⟩
end Go.Q
