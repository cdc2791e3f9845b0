/-
  Parts of a walk: what functions of the program compute, each told by a theorem (Qsf1, Qsf2, Qsf3, Qsf4, Qsf6, Qsq1, Qsq3, Qsq2, QsEq9, Qsq4, QDir, Qsm4, Qsm5, Qsm8, Qsm6, Qsm7).
-/
import Derived.Test.YtmfppdpfljpphaaGreatDoorB3
set_option linter.unusedVariables false
set_option linter.unusedSimpArgs false
set_option maxHeartbeats 4000000
set_option linter.unnecessarySimpa false
namespace Go.Q
open Go.Proofs
set_option linter.unusedVariables false
set_option maxRecDepth 100000
attribute [local irreducible] wpList OK Code.wp
theorem within_c {E w : World} {R : List Hp} (hH : Has E w [R]) (n m : Int) :
  Calls Tryz.prog 277 #[(yi n), (yi m)] w fun e w' => e = .returned (.bool (decide (0 ≤ n ∧ n ≤ m))) ∧ Has E w' [R] := by
 refine zs (args := [(yi n), (yi m)]) Tryz.func277 rfl Tryz.ntmps277 (by simp) (yq fun K1 hK1 => (zd (za (zc (.bool false) rfl (zf (ze (hK1 _ _ (yq fun K2 hK2 => (zd (za (zb (yi n) rfl (za (o_geq (a := n) (b := 0) rfl rfl (za (zb (.bool (decide (0 ≤ n))) rfl ?_)))))))))))))))
 by_cases h3 : 0 ≤ n
 ·
  refine zo 7 rfl (cT h3) (zb (yi n) rfl (zo 7 rfl (cT h3) (zb (yi m) rfl (zo 7 rfl (cT h3) (o_leq (a := n) (b := m) rfl rfl (za (zq (u := (.bool (decide (n ≤ m)))) ((rfl : _ = _).trans (cT h3)) rfl (za (zc (.bool (decide (n ≤ m))) rfl (zf (ze (hK2 _ _ (wp_ret (zr Tryz.results277  (v := (.bool (decide (n ≤ m)))) rfl ?_))))))))))))))
  exact ⟨congrArg (fun b => Ending.returned (.bool b)) (decide_eq_decide.2 (by omega)), hH⟩
 ·
  refine zi (b' := false) 7 rfl (cF h3) rfl (zi (b' := false) 7 rfl (cF h3) rfl (zi (b' := false) 7 rfl (cF h3) rfl (za (zm (u := (.bool false)) ((rfl : _ = _).trans (cF h3)) rfl (za (zc (.bool false) rfl (zf (ze (hK2 _ _ (wp_ret (zr Tryz.results277  (v := (.bool false)) rfl ?_)))))))))))
  exact ⟨congrArg (fun b => Ending.returned (.bool b)) ((decide_eq_false (by omega)).symm), hH⟩
theorem right_c {E w : World} {R : List Hp} (hH : Has E w [R]) (f : Fr) (hfl : f.data.length ≤ 9223372036854775807) :
  Calls Tryz.prog 197 #[(.agg #[(yi f.ep), (yi f.pl), (yi f.gsn), (S f.data)])] w fun e w' => e = .returned (.bool (rightS f)) ∧ Has E w' [R] := by
 refine zs (args := [(.agg #[(yi f.ep), (yi f.pl), (yi f.gsn), (S f.data)])]) Tryz.func197 rfl Tryz.ntmps197 (by simp) (yq fun K1 hK1 => (zd (za (o_box (cs := #[(yi f.ep), (yi f.pl), (yi f.gsn), (S f.data)]) rfl rfl hH fun b2 w3 hH4 => (za (zc (.bool false) rfl (zf (ze (hK1 _ _ (yq fun K5 hK5 => (zd (za (zg (k := 0) (fun _ => by kernel_rfl) rfl (za (zj (v := (yi f.ep)) Tryz.underlying3 rfl rfl hH4 (zh 0 rfl) (CellsAt.one rfl) (za (zk (vs := #[(yi f.ep), (yi 2147483647)]) ca277 rfl (zF rfl rfl) (within_c hH4.all f.ep 2147483647) ?_)))))))))))))))))
 rintro _ w8 ⟨rfl, hX6⟩
 refine ⟨_, rfl, ?_⟩
 have hH7 := hX6.of_all
 refine za (zb (.bool (decide (0 ≤ f.ep ∧ f.ep ≤ 2147483647))) rfl ?_)
 by_cases h9 : 0 ≤ f.ep ∧ f.ep ≤ 2147483647
 ·
  refine zo 6 rfl (cT h9) (zg (k := 1) (fun _ => by kernel_rfl) rfl (zo 6 rfl (cT h9) (zj (v := (yi f.pl)) Tryz.underlying3 rfl rfl hH7 (zh 0 rfl) (CellsAt.one rfl) (zo 6 rfl (cT h9) (zk (vs := #[(yi f.pl), (yi 4611686018427387903)]) ca277 rfl (zF rfl rfl) (within_c hH7.all f.pl 4611686018427387903) ?_)))))
  rintro _ w12 ⟨rfl, hX10⟩
  refine ⟨_, rfl, ?_⟩
  have hH11 := hX10.of_all
  refine za (zq (u := (.bool (decide (0 ≤ f.pl ∧ f.pl ≤ 4611686018427387903)))) ((rfl : _ = _).trans (cT h9)) rfl (za (zb (.bool (decide (0 ≤ f.pl ∧ f.pl ≤ 4611686018427387903))) rfl ?_)))
  by_cases h13 : 0 ≤ f.pl ∧ f.pl ≤ 4611686018427387903
  ·
   refine zo 11 rfl (cT h13) (zg (k := 2) (fun _ => by kernel_rfl) rfl (zo 11 rfl (cT h13) (zj (v := (yi f.gsn)) Tryz.underlying3 rfl rfl hH11 (zh 0 rfl) (CellsAt.one rfl) (zo 11 rfl (cT h13) (zk (vs := #[(yi f.gsn), (yi 4611686018427387903)]) ca277 rfl (zF rfl rfl) (within_c hH11.all f.gsn 4611686018427387903) ?_)))))
   rintro _ w16 ⟨rfl, hX14⟩
   refine ⟨_, rfl, ?_⟩
   have hH15 := hX14.of_all
   refine za (zq (u := (.bool (decide (0 ≤ f.gsn ∧ f.gsn ≤ 4611686018427387903)))) ((rfl : _ = _).trans (cT h13)) rfl (za (zb (.bool (decide (0 ≤ f.gsn ∧ f.gsn ≤ 4611686018427387903))) rfl ?_)))
   by_cases h17 : 0 ≤ f.gsn ∧ f.gsn ≤ 4611686018427387903
   ·
    refine zo 16 rfl (cT h17) (zg (k := 3) (fun _ => by kernel_rfl) rfl (zo 16 rfl (cT h17) (zj (v := (S f.data)) Tryz.underlying9 rfl rfl hH15 (zh 0 rfl) (CellsAt.one rfl) (zo 16 rfl (cT h17) (z8 Tryz.underlying9 rfl (zo 16 rfl (cT h17) (o_leq (a := (f.data.length : Int)) (b := 200) rfl rfl (za (zq (u := (.bool (decide ((f.data.length : Int) ≤ 200)))) ((rfl : _ = _).trans (cT h17)) rfl (za (zc (.bool (decide ((f.data.length : Int) ≤ 200))) rfl (zf (ze (hK5 _ _ (wp_ret (zr Tryz.results197  (v := (.bool (decide ((f.data.length : Int) ≤ 200)))) rfl ?_))))))))))))))))
    have hH18 := (hH15.front 1 rfl).first 1 rfl
    exact ⟨congrArg (fun b => Ending.returned (.bool b)) (decide_eq_decide.2 (by omega)), hH18⟩
   ·
    refine zi (b' := false) 16 rfl (cF h17) rfl (zi (b' := false) 16 rfl (cF h17) rfl (zi (b' := false) 16 rfl (cF h17) rfl (zi (b' := false) 16 rfl (cF h17) rfl (za (zm (u := (.bool false)) ((rfl : _ = _).trans (cF h17)) rfl (za (zc (.bool false) rfl (zf (ze (hK5 _ _ (wp_ret (zr Tryz.results197  (v := (.bool false)) rfl ?_))))))))))))
    have hH19 := (hH15.front 1 rfl).first 1 rfl
    exact ⟨congrArg (fun b => Ending.returned (.bool b)) ((decide_eq_false (by omega)).symm), hH19⟩
  ·
   refine zi (b' := false) 11 rfl (cF h13) rfl (zi (b' := false) 11 rfl (cF h13) rfl (zi (b' := false) 11 rfl (cF h13) rfl (za (zm (u := (.bool false)) ((rfl : _ = _).trans (cF h13)) rfl (za (zb (.bool false) rfl (zi (b' := false) 16 rfl rfl rfl (zi (b' := false) 16 rfl rfl rfl (zi (b' := false) 16 rfl rfl rfl (zi (b' := false) 16 rfl rfl rfl (za (zm (u := (.bool false)) rfl rfl (za (zc (.bool false) rfl (zf (ze (hK5 _ _ (wp_ret (zr Tryz.results197  (v := (.bool false)) rfl ?_)))))))))))))))))))
   have hH20 := (hH11.front 1 rfl).first 1 rfl
   exact ⟨congrArg (fun b => Ending.returned (.bool b)) ((decide_eq_false (by omega)).symm), hH20⟩
 ·
  refine zi (b' := false) 6 rfl (cF h9) rfl (zi (b' := false) 6 rfl (cF h9) rfl (zi (b' := false) 6 rfl (cF h9) rfl (za (zm (u := (.bool false)) ((rfl : _ = _).trans (cF h9)) rfl (za (zb (.bool false) rfl (zi (b' := false) 11 rfl rfl rfl (zi (b' := false) 11 rfl rfl rfl (zi (b' := false) 11 rfl rfl rfl (za (zm (u := (.bool false)) rfl rfl (za (zb (.bool false) rfl (zi (b' := false) 16 rfl rfl rfl (zi (b' := false) 16 rfl rfl rfl (zi (b' := false) 16 rfl rfl rfl (zi (b' := false) 16 rfl rfl rfl (za (zm (u := (.bool false)) rfl rfl ?_)))))))))))))))))))
  refine za (zc (.bool false) rfl (zf (ze (hK5 _ _ (wp_ret (zr Tryz.results197  (v := (.bool false)) rfl ?_))))))
  have hH21 := (hH7.front 1 rfl).first 1 rfl
  exact ⟨congrArg (fun b => Ending.returned (.bool b)) ((decide_eq_false (by omega)).symm), hH21⟩
end Go.Q
namespace Go.Q
open Go.Proofs
set_option linter.unusedVariables false
set_option maxRecDepth 100000
attribute [local irreducible] wpList OK Code.wp
theorem make_c {E w : World} {R : List Hp} (hH : Has E w [R]) (hg : CellsAt R 0 0 nibV) (f : Fr) (hfl : f.data.length ≤ 9223372036854775807) {v : Value} {l : List (List UInt8)} (hv : Sl R 1 v l.length (l.map sV)) (hn : l.length ≤ 1000000) (hl : l.flatten.length ≤ 1000000000) (hd : f.data.length + l.flatten.length ≤ 9223372036854775807) :
  Calls Tryz.prog 107 #[(.agg #[(yi f.ep), (yi f.pl), (yi f.gsn), (S f.data)]), v] w fun e w' => e = .returned (S (makeS (Fr.mk f.ep f.pl f.gsn (f.data ++ l.flatten)))) ∧ Has E w' [R] := by
 refine zs (args := [(.agg #[(yi f.ep), (yi f.pl), (yi f.gsn), (S f.data)]), v]) Tryz.func107 rfl Tryz.ntmps107 (by simp) (yq fun K1 hK1 => (zd (za (o_box (cs := #[(yi f.ep), (yi f.pl), (yi f.gsn), (S f.data)]) rfl rfl hH fun b2 w3 hH4 => (za (zc (S ([] : List UInt8)) rfl (zf (ze (hK1 _ _ (yq fun K5 hK5 => (Rest.region mixed (by kernel_rfl) ?_)))))))))))
 have hH6 : Has E { w3 with drawn := w3.drawn + 1 } [(yo b2 #[(yi f.ep), (yi f.pl), (yi f.gsn), (S f.data)] 176), R] := Has0.drew hH4 _
 refine Rest.phaseA (fun w_ => Has E w_ [(yo b2 #[(yi f.ep), (yi f.pl), (yi f.gsn), (S f.data)] 176)]) 0 4 4 rfl (by decide) (by kernel_rfl) (zn 0 rfl (by kernel_rfl) (fun w_ h_ => zg (k := 3) (fun _ => by kernel_rfl) rfl ⟨rfl, rfl⟩) (zn 1 rfl (by kernel_rfl) (fun w_ h_ => zj (v := (S f.data)) Tryz.underlying9 rfl rfl h_ (zh 0 rfl) (CellsAt.one rfl) ⟨rfl, rfl⟩) (zn 2 rfl (by kernel_rfl) (fun w_ h_ => zb v rfl ⟨rfl, rfl⟩) ?_)))
 have hH7 := hH6.first 1 rfl
 refine a_w 3 rfl (by kernel_rfl) hH7 (zk (vs := #[v, (S ([] : List UInt8))]) ca118 rfl (zF rfl rfl) (join_c hH6.all (hv.mono (zh 1 rfl)) hn (by omega)) ?_)
 rintro _ w10 ⟨rfl, hX8⟩
 refine ⟨_, rfl, ?_⟩
 have hH9 := hX8.of_all
 have hH11 := hH9.first 1 rfl
 refine zM (by kernel_rfl) hH11 (zO 4 rfl (by kernel_rfl) (o_sadd rfl rfl (by omega) (zO 5 rfl (by kernel_rfl) (zg (k := 3) (fun _ => by kernel_rfl) rfl (r_eff 6 rfl (by kernel_rfl) (zH (c' := #[(yi f.ep), (yi f.pl), (yi f.gsn), (S (f.data ++ l.flatten))]) ti9 rfl rfl rfl (by simp) rfl (hH9.front 0 rfl) fun w12 hH13 => (Rest.done (by kernel_rfl) (ze (hK5 _ _ (yq fun K14 hK14 => (yq fun K15 hK15 => (zd (za (zG (cs := [(yi f.ep), (yi f.pl), (yi f.gsn), (S (f.data ++ l.flatten))]) Tryz.underlying176 rfl ti176 rfl hH13 (zh 0 rfl) (CellsAt.one rfl) (za (zk (vs := #[(.agg #[(yi f.ep), (yi f.pl), (yi f.gsn), (S (f.data ++ l.flatten))])]) ca197 rfl (zI rfl) (right_c hH13.all (Fr.mk f.ep f.pl f.gsn (f.data ++ l.flatten)) (by simp only [List.length_append]; omega)) ?_))))))))))))))))
 rintro _ w18 ⟨rfl, hX16⟩
 refine ⟨_, rfl, ?_⟩
 have hH17 := hX16.of_all
 refine za (o_not rfl (zf (ze (hK15 _ _ (z7 rfl (fun h19 => ?_) (fun h19 => ?_))))))
 ·
  have h19_n : (rightS (Fr.mk f.ep f.pl f.gsn (f.data ++ l.flatten))) = false := by first | simpa using h19 | exact Bool.of_not_eq_true (fun g_ => by rw [g_] at h19; cases h19)
  refine yq fun K20 hK20 => (zd (za (zc (S ([] : List UInt8)) rfl (zf (ze (hK20 _ _ (wp_ret (zx (zr Tryz.results107  (v := (S ([] : List UInt8))) rfl ?_)))))))))
  have hH21 := (hH17.front 1 rfl).first 1 rfl
  exact ⟨by rw [makeS_no (by simpa using ‹(!_) = true›)], hH21⟩
 ·
  have h19_n : (rightS (Fr.mk f.ep f.pl f.gsn (f.data ++ l.flatten))) = true := by first | simpa using h19 | exact Bool.of_not_eq_false (fun g_ => by rw [g_] at h19; cases h19)
  have hr : rightS (Fr.mk f.ep f.pl f.gsn (f.data ++ l.flatten)) = true := by simpa using h19
  have hrl := (rightS_of hr).2.2.2.2.2.2
  simp only [List.length_append] at hrl
  refine wp_skip (ze (hK14 _ _ (yq fun K22 hK22 => (c_flow [(yo b2 #[(yi f.ep), (yi f.pl), (yi f.gsn), (S (f.data ++ l.flatten))] 176), R] (fun i_ => match i_ with | _ => []) (fun i_ v_ h_ => match i_ with | 0 => v_ = (.pointer (some ⟨b2, 3, none⟩)) ∧ h_ = [] | 1 => v_ = (S (f.data ++ l.flatten)) ∧ h_ = [] | 2 => v_ = (yi ((f.data ++ l.flatten).length : Int)) ∧ h_ = [] | 3 => ∃ (b23 : Nat), v_ = (.slice (some ⟨b23, 0, none⟩) 1 1) ∧ h_ = (yo b23 #[(yi ((f.data ++ l.flatten).length : Int))] 3) | 4 => v_ = (S (putS 1 [((f.data ++ l.flatten).length : Int)])) ∧ h_ = [] | 5 => v_ = (yp b2) ∧ h_ = [] | 6 => v_ = (yi f.ep) ∧ h_ = [] | 7 => ∃ (b29 : Nat), v_ = (.slice (some ⟨b29, 0, none⟩) 1 1) ∧ h_ = (yo b29 #[(yi f.ep)] 3) | 8 => v_ = (S (putS 4 [f.ep])) ∧ h_ = [] | 9 => v_ = (.pointer (some ⟨b2, 1, none⟩)) ∧ h_ = [] | 10 => v_ = (yi f.pl) ∧ h_ = [] | 11 => v_ = (.pointer (some ⟨b2, 2, none⟩)) ∧ h_ = [] | 12 => v_ = (yi f.gsn) ∧ h_ = [] | 13 => ∃ (b35 : Nat), v_ = (.slice (some ⟨b35, 0, none⟩) 2 2) ∧ h_ = (yo b35 #[(yi f.pl), (yi f.gsn)] 3) | 14 => v_ = (S (putS 8 [f.pl, f.gsn])) ∧ h_ = [] | 15 => v_ = (.pointer (some ⟨b2, 3, none⟩)) ∧ h_ = [] | 16 => v_ = (S (f.data ++ l.flatten)) ∧ h_ = [] | 17 => ∃ (b41 : Nat), v_ = (.slice (some ⟨b41, 0, none⟩) 4 4) ∧ h_ = (yo b41 #[(S (putS 1 [((f.data ++ l.flatten).length : Int)])), (S (putS 4 [f.ep])), (S (putS 8 [f.pl, f.gsn])), (S (f.data ++ l.flatten))] 9) | 18 => v_ = (S (sealS [(putS 1 [((f.data ++ l.flatten).length : Int)]), (putS 4 [f.ep]), (putS 8 [f.pl, f.gsn]), f.data ++ l.flatten].flatten)) ∧ h_ = [] | 19 => v_ = (S (sealS [(putS 1 [((f.data ++ l.flatten).length : Int)]), (putS 4 [f.ep]), (putS 8 [f.pl, f.gsn]), f.data ++ l.flatten].flatten)) ∧ h_ = [] | _ => True) mixed (by kernel_rfl) (flow_has (cs := []) hH17 rfl) ?_ ?_))))
  ·
   intro i_ o_ ho_ r' w' G hs_ ht
   match i_, ho_ with
   | 0, ho_ =>
    obtain rfl := Option.some.inj ho_
    have e2 : r' 2 = (yp b2) := ht.was 2 (by kernel_rfl)
    have hG := ht.has.drop
    refine zg (k := 3) (fun _ => by kernel_rfl) e2 ?_
    exact ⟨_, ⟨rfl, rfl⟩, hG⟩
   | 1, ho_ =>
    obtain rfl := Option.some.inj ho_
    obtain ⟨e14, eh0⟩ := (ht.done 0 _ rfl rfl).1
    have hG := ht.has.drop
    refine zj (v := (S (f.data ++ l.flatten))) Tryz.underlying9 rfl e14 hG (ht.fr (yo b2 #[(yi f.ep), (yi f.pl), (yi f.gsn), (S (f.data ++ l.flatten))] 176) (by simp)) (CellsAt.one rfl) ?_
    exact ⟨_, ⟨rfl, rfl⟩, hG⟩
   | 2, ho_ =>
    obtain rfl := Option.some.inj ho_
    obtain ⟨e15, eh1⟩ := (ht.done 1 _ rfl rfl).1
    have hG := ht.has.drop
    refine z8 Tryz.underlying9 e15 ?_
    exact ⟨_, ⟨rfl, rfl⟩, hG⟩
   | 3, ho_ =>
    obtain rfl := Option.some.inj ho_
    obtain ⟨e16, eh2⟩ := (ht.done 2 _ rfl rfl).1
    have hG := ht.has.drop
    refine zw (ps := #[(0, (yi ((f.data ++ l.flatten).length : Int)))]) (cells := #[(yi ((f.data ++ l.flatten).length : Int))]) Tryz.underlying47 ti3 (by decide) (yb e16) (by kernel_rfl) hG fun b23 w24 hH25 => ?_
    exact ⟨_, ⟨b23, rfl, rfl⟩, hH25⟩
   | 4, ho_ =>
    obtain rfl := Option.some.inj ho_
    obtain ⟨b23, e17, eh3⟩ := (ht.done 3 _ rfl rfl).1
    have hG := ht.has.drop
    refine zk (vs := #[(yi 1), (.slice (some ⟨b23, 0, none⟩) 1 1)]) ca90 rfl (zF rfl e17) (put_c hG.all 1 (l := [((f.data ++ l.flatten).length : Int)]) ((zW (f := iV) (l := [((f.data ++ l.flatten).length : Int)]) rfl rfl (by simp)).mono (eh3 ▸ (ht.done 3 _ rfl rfl).2)) (by simp)) ?_
    rintro _ w28 ⟨rfl, hX26⟩
    refine ⟨_, rfl, ?_⟩
    have hH27 := hX26.of_all
    exact ⟨_, ⟨rfl, rfl⟩, hH27⟩
   | 5, ho_ =>
    obtain rfl := Option.some.inj ho_
    have e2 : r' 2 = (yp b2) := ht.was 2 (by kernel_rfl)
    have hG := ht.has.drop
    refine zg (k := 0) (fun _ => by kernel_rfl) e2 ?_
    exact ⟨_, ⟨rfl, rfl⟩, hG⟩
   | 6, ho_ =>
    obtain rfl := Option.some.inj ho_
    obtain ⟨e19, eh5⟩ := (ht.done 5 _ rfl rfl).1
    have hG := ht.has.drop
    refine zj (v := (yi f.ep)) Tryz.underlying3 rfl e19 hG (ht.fr (yo b2 #[(yi f.ep), (yi f.pl), (yi f.gsn), (S (f.data ++ l.flatten))] 176) (by simp)) (CellsAt.one rfl) ?_
    exact ⟨_, ⟨rfl, rfl⟩, hG⟩
   | 7, ho_ =>
    obtain rfl := Option.some.inj ho_
    obtain ⟨e20, eh6⟩ := (ht.done 6 _ rfl rfl).1
    have hG := ht.has.drop
    refine zw (ps := #[(0, (yi f.ep))]) (cells := #[(yi f.ep)]) Tryz.underlying47 ti3 (by decide) (yb e20) (by kernel_rfl) hG fun b29 w30 hH31 => ?_
    exact ⟨_, ⟨b29, rfl, rfl⟩, hH31⟩
   | 8, ho_ =>
    obtain rfl := Option.some.inj ho_
    obtain ⟨b23, e17, eh3⟩ := (ht.done 3 _ rfl rfl).1
    obtain ⟨b29, e21, eh7⟩ := (ht.done 7 _ rfl rfl).1
    have hG := ht.has.drop
    refine zk (vs := #[(yi 4), (.slice (some ⟨b29, 0, none⟩) 1 1)]) ca90 rfl (zF rfl e21) (put_c hG.all 4 (l := [f.ep]) ((zW (f := iV) (l := [f.ep]) rfl rfl (by simp)).mono (eh7 ▸ (ht.done 7 _ rfl rfl).2)) (by simp)) ?_
    rintro _ w34 ⟨rfl, hX32⟩
    refine ⟨_, rfl, ?_⟩
    have hH33 := hX32.of_all
    exact ⟨_, ⟨rfl, rfl⟩, hH33⟩
   | 9, ho_ =>
    obtain rfl := Option.some.inj ho_
    have e2 : r' 2 = (yp b2) := ht.was 2 (by kernel_rfl)
    have hG := ht.has.drop
    refine zg (k := 1) (fun _ => by kernel_rfl) e2 ?_
    exact ⟨_, ⟨rfl, rfl⟩, hG⟩
   | 10, ho_ =>
    obtain rfl := Option.some.inj ho_
    obtain ⟨e23, eh9⟩ := (ht.done 9 _ rfl rfl).1
    have hG := ht.has.drop
    refine zj (v := (yi f.pl)) Tryz.underlying3 rfl e23 hG (ht.fr (yo b2 #[(yi f.ep), (yi f.pl), (yi f.gsn), (S (f.data ++ l.flatten))] 176) (by simp)) (CellsAt.one rfl) ?_
    exact ⟨_, ⟨rfl, rfl⟩, hG⟩
   | 11, ho_ =>
    obtain rfl := Option.some.inj ho_
    have e2 : r' 2 = (yp b2) := ht.was 2 (by kernel_rfl)
    have hG := ht.has.drop
    refine zg (k := 2) (fun _ => by kernel_rfl) e2 ?_
    exact ⟨_, ⟨rfl, rfl⟩, hG⟩
   | 12, ho_ =>
    obtain rfl := Option.some.inj ho_
    obtain ⟨e25, eh11⟩ := (ht.done 11 _ rfl rfl).1
    have hG := ht.has.drop
    refine zj (v := (yi f.gsn)) Tryz.underlying3 rfl e25 hG (ht.fr (yo b2 #[(yi f.ep), (yi f.pl), (yi f.gsn), (S (f.data ++ l.flatten))] 176) (by simp)) (CellsAt.one rfl) ?_
    exact ⟨_, ⟨rfl, rfl⟩, hG⟩
   | 13, ho_ =>
    obtain rfl := Option.some.inj ho_
    obtain ⟨e24, eh10⟩ := (ht.done 10 _ rfl rfl).1
    obtain ⟨e26, eh12⟩ := (ht.done 12 _ rfl rfl).1
    have hG := ht.has.drop
    refine zw (ps := #[(0, (yi f.pl)), (1, (yi f.gsn))]) (cells := #[(yi f.pl), (yi f.gsn)]) Tryz.underlying47 ti3 (by decide) (parts2 e24 e26) (by kernel_rfl) hG fun b35 w36 hH37 => ?_
    exact ⟨_, ⟨b35, rfl, rfl⟩, hH37⟩
   | 14, ho_ =>
    obtain rfl := Option.some.inj ho_
    obtain ⟨b23, e17, eh3⟩ := (ht.done 3 _ rfl rfl).1
    obtain ⟨b29, e21, eh7⟩ := (ht.done 7 _ rfl rfl).1
    obtain ⟨b35, e27, eh13⟩ := (ht.done 13 _ rfl rfl).1
    have hG := ht.has.drop
    refine zk (vs := #[(yi 8), (.slice (some ⟨b35, 0, none⟩) 2 2)]) ca90 rfl (zF rfl e27) (put_c hG.all 8 (l := [f.pl, f.gsn]) ((zW (f := iV) (l := [f.pl, f.gsn]) rfl rfl (by simp)).mono (eh13 ▸ (ht.done 13 _ rfl rfl).2)) (by simp)) ?_
    rintro _ w40 ⟨rfl, hX38⟩
    refine ⟨_, rfl, ?_⟩
    have hH39 := hX38.of_all
    exact ⟨_, ⟨rfl, rfl⟩, hH39⟩
   | 15, ho_ =>
    obtain rfl := Option.some.inj ho_
    have e2 : r' 2 = (yp b2) := ht.was 2 (by kernel_rfl)
    have hG := ht.has.drop
    refine zg (k := 3) (fun _ => by kernel_rfl) e2 ?_
    exact ⟨_, ⟨rfl, rfl⟩, hG⟩
   | 16, ho_ =>
    obtain rfl := Option.some.inj ho_
    obtain ⟨e29, eh15⟩ := (ht.done 15 _ rfl rfl).1
    have hG := ht.has.drop
    refine zj (v := (S (f.data ++ l.flatten))) Tryz.underlying9 rfl e29 hG (ht.fr (yo b2 #[(yi f.ep), (yi f.pl), (yi f.gsn), (S (f.data ++ l.flatten))] 176) (by simp)) (CellsAt.one rfl) ?_
    exact ⟨_, ⟨rfl, rfl⟩, hG⟩
   | 17, ho_ =>
    obtain rfl := Option.some.inj ho_
    obtain ⟨b23, e17, eh3⟩ := (ht.done 3 _ rfl rfl).1
    obtain ⟨e18, eh4⟩ := (ht.done 4 _ rfl rfl).1
    obtain ⟨b29, e21, eh7⟩ := (ht.done 7 _ rfl rfl).1
    obtain ⟨e22, eh8⟩ := (ht.done 8 _ rfl rfl).1
    obtain ⟨b35, e27, eh13⟩ := (ht.done 13 _ rfl rfl).1
    obtain ⟨e28, eh14⟩ := (ht.done 14 _ rfl rfl).1
    obtain ⟨e30, eh16⟩ := (ht.done 16 _ rfl rfl).1
    have hG := ht.has.drop
    refine zw (ps := #[(0, (S (putS 1 [((f.data ++ l.flatten).length : Int)]))), (1, (S (putS 4 [f.ep]))), (2, (S (putS 8 [f.pl, f.gsn]))), (3, (S (f.data ++ l.flatten)))]) (cells := #[(S (putS 1 [((f.data ++ l.flatten).length : Int)])), (S (putS 4 [f.ep])), (S (putS 8 [f.pl, f.gsn])), (S (f.data ++ l.flatten))]) Tryz.underlying46 ti9 (by decide) (parts4 e18 e22 e28 e30) (by kernel_rfl) hG fun b41 w42 hH43 => ?_
    exact ⟨_, ⟨b41, rfl, rfl⟩, hH43⟩
   | 18, ho_ =>
    obtain rfl := Option.some.inj ho_
    obtain ⟨b23, e17, eh3⟩ := (ht.done 3 _ rfl rfl).1
    obtain ⟨b29, e21, eh7⟩ := (ht.done 7 _ rfl rfl).1
    obtain ⟨b35, e27, eh13⟩ := (ht.done 13 _ rfl rfl).1
    obtain ⟨b41, e31, eh17⟩ := (ht.done 17 _ rfl rfl).1
    have hG := ht.has.drop
    refine zk (vs := #[(.slice (some ⟨b41, 0, none⟩) 4 4)]) ca89 rfl (zI e31) (seal_c hG.all (hg.mono (ht.fr R (by simp))) ((zW (f := sV) (l := [(putS 1 [((f.data ++ l.flatten).length : Int)]), (putS 4 [f.ep]), (putS 8 [f.pl, f.gsn]), f.data ++ l.flatten]) rfl rfl (by simp)).mono (eh17 ▸ (ht.done 17 _ rfl rfl).2)) (by simp) (by rw [put_flat hr, List.length_append, headS_len]; simp only [List.length_append]; omega)) ?_
    rintro _ w46 ⟨rfl, hX44⟩
    refine ⟨_, rfl, ?_⟩
    have hH45 := hX44.of_all
    exact ⟨_, ⟨rfl, rfl⟩, hH45⟩
   | 19, ho_ =>
    obtain rfl := Option.some.inj ho_
    obtain ⟨b23, e17, eh3⟩ := (ht.done 3 _ rfl rfl).1
    obtain ⟨b29, e21, eh7⟩ := (ht.done 7 _ rfl rfl).1
    obtain ⟨b35, e27, eh13⟩ := (ht.done 13 _ rfl rfl).1
    obtain ⟨b41, e31, eh17⟩ := (ht.done 17 _ rfl rfl).1
    obtain ⟨e32, eh18⟩ := (ht.done 18 _ rfl rfl).1
    have hG := ht.has.drop
    refine zc (S (sealS [(putS 1 [((f.data ++ l.flatten).length : Int)]), (putS 4 [f.ep]), (putS 8 [f.pl, f.gsn]), f.data ++ l.flatten].flatten)) e32 ?_
    exact ⟨_, ⟨rfl, rfl⟩, hG⟩
   | i_ + 20, ho_ => exact absurd ho_ (by simp)
  ·
   intro vs47 hs48 w49 hT50 hH51
   obtain ⟨e0_, eh0_⟩ := hT50 0 _ rfl
   obtain ⟨e1_, eh1_⟩ := hT50 1 _ rfl
   obtain ⟨e2_, eh2_⟩ := hT50 2 _ rfl
   obtain ⟨b23, e3_, eh3_⟩ := hT50 3 _ rfl
   obtain ⟨e4_, eh4_⟩ := hT50 4 _ rfl
   obtain ⟨e5_, eh5_⟩ := hT50 5 _ rfl
   obtain ⟨e6_, eh6_⟩ := hT50 6 _ rfl
   obtain ⟨b29, e7_, eh7_⟩ := hT50 7 _ rfl
   obtain ⟨e8_, eh8_⟩ := hT50 8 _ rfl
   obtain ⟨e9_, eh9_⟩ := hT50 9 _ rfl
   obtain ⟨e10_, eh10_⟩ := hT50 10 _ rfl
   obtain ⟨e11_, eh11_⟩ := hT50 11 _ rfl
   obtain ⟨e12_, eh12_⟩ := hT50 12 _ rfl
   obtain ⟨b35, e13_, eh13_⟩ := hT50 13 _ rfl
   obtain ⟨e14_, eh14_⟩ := hT50 14 _ rfl
   obtain ⟨e15_, eh15_⟩ := hT50 15 _ rfl
   obtain ⟨e16_, eh16_⟩ := hT50 16 _ rfl
   obtain ⟨b41, e17_, eh17_⟩ := hT50 17 _ rfl
   obtain ⟨e18_, eh18_⟩ := hT50 18 _ rfl
   obtain ⟨e19_, eh19_⟩ := hT50 19 _ rfl
   have hH52 : Has E w49 ([(yo b2 #[(yi f.ep), (yi f.pl), (yi f.gsn), (S (f.data ++ l.flatten))] 176), R] ++ [(yo b23 #[(yi ((f.data ++ l.flatten).length : Int))] 3), (yo b29 #[(yi f.ep)] 3), (yo b35 #[(yi f.pl), (yi f.gsn)] 3), (yo b41 #[(S (putS 1 [((f.data ++ l.flatten).length : Int)])), (S (putS 4 [f.ep])), (S (putS 8 [f.pl, f.gsn])), (S (f.data ++ l.flatten))] 9)]) := flow_back (cs := [(yo b23 #[(yi ((f.data ++ l.flatten).length : Int))] 3), (yo b29 #[(yi f.ep)] 3), (yo b35 #[(yi f.pl), (yi f.gsn)] 3), (yo b41 #[(S (putS 1 [((f.data ++ l.flatten).length : Int)])), (S (putS 4 [f.ep])), (S (putS 8 [f.pl, f.gsn])), (S (f.data ++ l.flatten))] 9)]) hH51 (by show (hs48 0 ++ (hs48 1 ++ (hs48 2 ++ (hs48 3 ++ (hs48 4 ++ (hs48 5 ++ (hs48 6 ++ (hs48 7 ++ (hs48 8 ++ (hs48 9 ++ (hs48 10 ++ (hs48 11 ++ (hs48 12 ++ (hs48 13 ++ (hs48 14 ++ (hs48 15 ++ (hs48 16 ++ (hs48 17 ++ (hs48 18 ++ (hs48 19 ++ [])))))))))))))))))))) = _; rw [eh0_, eh1_, eh2_, eh3_, eh4_, eh5_, eh6_, eh7_, eh8_, eh9_, eh10_, eh11_, eh12_, eh13_, eh14_, eh15_, eh16_, eh17_, eh18_, eh19_]; rfl)
   generalize hr54 : puts vs47 _ 0 _ = r53
   have e55_0 : r53 0 = (.agg #[(yi f.ep), (yi f.pl), (yi f.gsn), (S f.data)]) := by rw [← hr54]; exact rfl
   have e55_1 : r53 1 = v := by rw [← hr54]; exact rfl
   have e55_2 : r53 2 = (yp b2) := by rw [← hr54]; exact rfl
   have e55_4 : r53 4 = (S (sealS [(putS 1 [((f.data ++ l.flatten).length : Int)]), (putS 4 [f.ep]), (putS 8 [f.pl, f.gsn]), f.data ++ l.flatten].flatten)) := by rw [← hr54]; exact e19_
   have e55_13 : r53 13 = (.bool (!(rightS (Fr.mk f.ep f.pl f.gsn (f.data ++ l.flatten))))) := by rw [← hr54]; exact rfl
   refine ze (hK22 _ _ (wp_ret (zr Tryz.results107  (v := (S (sealS [(putS 1 [((f.data ++ l.flatten).length : Int)]), (putS 4 [f.ep]), (putS 8 [f.pl, f.gsn]), f.data ++ l.flatten].flatten))) e55_4 ?_)))
   have hH56 := (hH52.front 1 rfl).first 1 rfl
   exact ⟨by rw [makeS_yes hr, ← put_flat hr], hH56⟩
theorem make1_c {E w : World} {R : List Hp} (hH : Has E w [R]) (hg : CellsAt R 0 0 nibV) (f : Fr) (hfl : f.data.length ≤ 9223372036854775807) :
  Calls Tryz.prog 107 #[(.agg #[(yi f.ep), (yi f.pl), (yi f.gsn), (S f.data)]), (.slice none 0 0)] w fun e w' => e = .returned (S (makeS f)) ∧ Has E w' [R] := by
 have h := make_c hH hg f hfl (v := .slice none 0 0) (l := []) (sl_nil 1) (by simp) (by simp) (by simpa using hfl)
 have e : (Fr.mk f.ep f.pl f.gsn (f.data ++ ([] : List (List UInt8)).flatten)) = f := by simp
 rw [e] at h
 exact h
end Go.Q
namespace Go.Q
open Go.Proofs
set_option linter.unusedVariables false
set_option maxRecDepth 100000
attribute [local irreducible] wpList OK Code.wp
theorem fopen_c {E w : World} {R : List Hp} (hH : Has E w [R]) (hg : CellsAt R 0 0 nibV) (s : List UInt8) (hsl : s.length ≤ 9000000000000000000) :
  Calls Tryz.prog 193 #[(S s)] w fun e w' => e = .returned (.tuple #[(.agg #[(yi (oF s).ep), (yi (oF s).pl), (yi (oF s).gsn), (S (oF s).data)]), .int .i64 (oN s), .bool (opensB s)]) ∧ Has E w' [R] := by
 have ht1 := take_one s
 refine zs (args := [(S s)]) Tryz.func193 rfl Tryz.ntmps193 (by simp) (yq fun K1 hK1 => (zd (za (zU (cs := #[(yi 0), (yi 0), (yi 0), (S ([] : List UInt8))]) ti176 rfl hH fun b2 w3 hH4 => (za (zc (yi 0) rfl (za (zc (.bool false) rfl (zf (ze (hK1 _ _ (yq fun K5 hK5 => (zd (za (zb (S s) rfl (za (zk (vs := #[(S s), (yi 1)]) ca276 rfl (zF rfl rfl) (take_c hH4.all 1 s (by first | omega | exact rest_le1 hsl | exact rest_le2 hsl | exact rest_le3 hsl)) ?_)))))))))))))))))
 rintro _ w8 ⟨rfl, hX6⟩
 refine ⟨_, rfl, ?_⟩
 have hH7 := hX6.of_all
 refine za (zb (.tuple #[(yi ((takeS s 1).1)), (S ((takeS s 1).2.1)), (.bool ((takeS s 1).2.2))]) rfl (za (zp (v := (yi ((takeS s 1).1))) rfl rfl (za (zp (v := (S ((takeS s 1).2.1))) rfl rfl (za (zp (v := (.bool ((takeS s 1).2.2))) rfl rfl (za (zc (yi ((takeS s 1).1)) rfl (za (zc (S ((takeS s 1).2.1)) rfl (za (zc (.bool ((takeS s 1).2.2)) rfl (zf (ze (hK5 _ _ (yq fun K9 hK9 => (yq fun K10 hK10 => (zd (za (zb (.bool ((takeS s 1).2.2)) rfl (za (o_not rfl (za (zb (.bool (!((takeS s 1).2.2))) rfl ?_)))))))))))))))))))))))))
 rcases Bool.eq_false_or_eq_true (!((takeS s 1).2.2)) with h11 | h11
 ·
  refine zi (b' := true) 17 rfl (congrArg Value.bool h11) rfl (zi (b' := true) 17 rfl (congrArg Value.bool h11) rfl (zi (b' := true) 17 rfl (congrArg Value.bool h11) rfl (zi (b' := true) 17 rfl (congrArg Value.bool h11) rfl (zi (b' := true) 17 rfl (congrArg Value.bool h11) rfl (za (zq (u := (.bool true)) ((rfl : _ = _).trans (congrArg Value.bool h11)) rfl (zf (ze (hK10 _ _ (zP rfl rfl (yq fun K12 hK12 => (zd (za (zJ (v := (.agg #[(yi 0), (yi 0), (yi 0), (S ([] : List UInt8))])) (fun _ => by kernel_rfl) (zB (zv (vs := [(yi 0), (yi 0), (yi 0), (S ([] : List UInt8))]) (c' := #[(yi 0), (yi 0), (yi 0), (S ([] : List UInt8))]) ti176 rfl rfl rfl rfl (by intro u hu; simp only [List.mem_cons, List.not_mem_nil, or_false] at hu; rcases hu with rfl | rfl | rfl | rfl <;> first | rfl) (by simp) (by kernel_rfl) (hH7.front 0 rfl) fun w13 hH14 => (za (zc (yi 0) rfl (za (zc (.bool false) rfl ?_))))))))))))))))))))
  refine zf (ze (hK12 _ _ (wp_ret (zx (c_retC3 Tryz.results193 rfl (zu (cs := [(yi 0), (yi 0), (yi 0), (S ([] : List UInt8))]) Tryz.underlying176 rfl ti176 hH14 (zh 0 rfl) (CellsAt.one rfl)) (x := (yi 0)) rfl (y := (.bool false)) rfl ?_)))))
  have hH15 := (hH14.front 1 rfl).first 1 rfl
  have ho : opensB s = false := opens_no1 (not_t h11)
  exact ⟨by unfold oF oN; rw [ho]; rfl, hH15⟩
 ·
  refine zo 17 rfl (congrArg Value.bool h11) (zb (S s) rfl (zo 17 rfl (congrArg Value.bool h11) (z8 Tryz.underlying9 rfl (zo 17 rfl (congrArg Value.bool h11) (zb (yi ((takeS s 1).1)) rfl (zo 17 rfl (congrArg Value.bool h11) (zD (a := (takeS s 1).1) (b := 25) rfl rfl (w64 (by omega) (by omega)) (zo 17 rfl (congrArg Value.bool h11) (zL (a := (s.length : Int)) (b := ((takeS s 1).1) + 25) rfl rfl (za (zm (u := (.bool (decide ((s.length : Int) < ((takeS s 1).1) + 25)))) ((rfl : _ = _).trans (congrArg Value.bool h11)) rfl (zf (ze (hK10 _ _ (zt rfl (fun h16 => ?_) (fun h16 => ?_))))))))))))))))
  ·
   refine yq fun K17 hK17 => (zd (za (zJ (v := (.agg #[(yi 0), (yi 0), (yi 0), (S ([] : List UInt8))])) (fun _ => by kernel_rfl) (zB (zv (vs := [(yi 0), (yi 0), (yi 0), (S ([] : List UInt8))]) (c' := #[(yi 0), (yi 0), (yi 0), (S ([] : List UInt8))]) ti176 rfl rfl rfl rfl (by intro u hu; simp only [List.mem_cons, List.not_mem_nil, or_false] at hu; rcases hu with rfl | rfl | rfl | rfl <;> first | rfl) (by simp) (by kernel_rfl) (hH7.front 0 rfl) fun w18 hH19 => (za (zc (yi 0) rfl (za (zc (.bool false) rfl (zf (ze (hK17 _ _ (wp_ret (zx (c_retC3 Tryz.results193 rfl (zu (cs := [(yi 0), (yi 0), (yi 0), (S ([] : List UInt8))]) Tryz.underlying176 rfl ti176 hH19 (zh 0 rfl) (CellsAt.one rfl)) (x := (yi 0)) rfl (y := (.bool false)) rfl ?_)))))))))))))))
   have hH20 := (hH19.front 1 rfl).first 1 rfl
   have ho : opensB s = false := opens_no2 (by omega)
   exact ⟨by unfold oF oN; rw [ho]; rfl, hH20⟩
  ·
   refine wp_skip (ze (hK9 _ _ (yq fun K21 hK21 => (zd (za (zU (cs := #[(yi 0), (yi 0), (yi 0), (S ([] : List UInt8))]) ti176 rfl hH7 fun b22 w23 hH24 => (zf (ze (hK21 _ _ (yq fun K25 hK25 => (zd (za (zb (S ((takeS s 1).2.1)) rfl (za (zk (vs := #[(S ((takeS s 1).2.1)), (yi 4)]) ca276 rfl (zF rfl rfl) (take_c hH24.all 4 ((takeS s 1).2.1) (by first | omega | exact rest_le1 hsl | exact rest_le2 hsl | exact rest_le3 hsl)) ?_)))))))))))))))
   rintro _ w28 ⟨rfl, hX26⟩
   refine ⟨_, rfl, ?_⟩
   have hH27 := hX26.of_all
   refine za (zb (.tuple #[(yi ((takeS ((takeS s 1).2.1) 4).1)), (S ((takeS ((takeS s 1).2.1) 4).2.1)), (.bool ((takeS ((takeS s 1).2.1) 4).2.2))]) rfl (za (zp (v := (yi ((takeS ((takeS s 1).2.1) 4).1))) rfl rfl (za (zp (v := (S ((takeS ((takeS s 1).2.1) 4).2.1))) rfl rfl (za (zp (v := (.bool ((takeS ((takeS s 1).2.1) 4).2.2))) rfl rfl (za (zg (k := 0) (fun _ => by kernel_rfl) rfl (zB (zH (c' := #[(yi ((takeS ((takeS s 1).2.1) 4).1)), (yi 0), (yi 0), (S ([] : List UInt8))]) ti3 rfl rfl rfl (by simp) rfl (hH27.front 0 rfl) fun w29 hH30 => (za (zc (S ((takeS ((takeS s 1).2.1) 4).2.1)) rfl (zf (ze (hK25 _ _ (yq fun K31 hK31 => (zd (za (zb (S ((takeS ((takeS s 1).2.1) 4).2.1)) rfl (za (zk (vs := #[(S ((takeS ((takeS s 1).2.1) 4).2.1)), (yi 8)]) ca276 rfl (zF rfl rfl) (take_c hH30.all 8 ((takeS ((takeS s 1).2.1) 4).2.1) (by first | omega | exact rest_le1 hsl | exact rest_le2 hsl | exact rest_le3 hsl)) ?_))))))))))))))))))))))
   rintro _ w34 ⟨rfl, hX32⟩
   refine ⟨_, rfl, ?_⟩
   have hH33 := hX32.of_all
   refine za (zb (.tuple #[(yi ((takeS ((takeS ((takeS s 1).2.1) 4).2.1) 8).1)), (S ((takeS ((takeS ((takeS s 1).2.1) 4).2.1) 8).2.1)), (.bool ((takeS ((takeS ((takeS s 1).2.1) 4).2.1) 8).2.2))]) rfl (za (zp (v := (yi ((takeS ((takeS ((takeS s 1).2.1) 4).2.1) 8).1))) rfl rfl (za (zp (v := (S ((takeS ((takeS ((takeS s 1).2.1) 4).2.1) 8).2.1))) rfl rfl (za (zp (v := (.bool ((takeS ((takeS ((takeS s 1).2.1) 4).2.1) 8).2.2))) rfl rfl (za (zg (k := 1) (fun _ => by kernel_rfl) rfl (zB (zH (c' := #[(yi ((takeS ((takeS s 1).2.1) 4).1)), (yi ((takeS ((takeS ((takeS s 1).2.1) 4).2.1) 8).1)), (yi 0), (S ([] : List UInt8))]) ti3 rfl rfl rfl (by simp) rfl (hH33.front 0 rfl) fun w35 hH36 => (za (zc (S ((takeS ((takeS ((takeS s 1).2.1) 4).2.1) 8).2.1)) rfl (zf (ze (hK31 _ _ (yq fun K37 hK37 => (zd (za (zb (S ((takeS ((takeS ((takeS s 1).2.1) 4).2.1) 8).2.1)) rfl (za (zk (vs := #[(S ((takeS ((takeS ((takeS s 1).2.1) 4).2.1) 8).2.1)), (yi 8)]) ca276 rfl (zF rfl rfl) (take_c hH36.all 8 ((takeS ((takeS ((takeS s 1).2.1) 4).2.1) 8).2.1) (by first | omega | exact rest_le1 hsl | exact rest_le2 hsl | exact rest_le3 hsl)) ?_))))))))))))))))))))))
   rintro _ w40 ⟨rfl, hX38⟩
   refine ⟨_, rfl, ?_⟩
   have hH39 := hX38.of_all
   refine za (zb (.tuple #[(yi ((takeS ((takeS ((takeS ((takeS s 1).2.1) 4).2.1) 8).2.1) 8).1)), (S ((takeS ((takeS ((takeS ((takeS s 1).2.1) 4).2.1) 8).2.1) 8).2.1)), (.bool ((takeS ((takeS ((takeS ((takeS s 1).2.1) 4).2.1) 8).2.1) 8).2.2))]) rfl (za (zp (v := (yi ((takeS ((takeS ((takeS ((takeS s 1).2.1) 4).2.1) 8).2.1) 8).1))) rfl rfl (za (zp (v := (S ((takeS ((takeS ((takeS ((takeS s 1).2.1) 4).2.1) 8).2.1) 8).2.1))) rfl rfl (za (zp (v := (.bool ((takeS ((takeS ((takeS ((takeS s 1).2.1) 4).2.1) 8).2.1) 8).2.2))) rfl rfl (za (zg (k := 2) (fun _ => by kernel_rfl) rfl (zB (zH (c' := #[(yi ((takeS ((takeS s 1).2.1) 4).1)), (yi ((takeS ((takeS ((takeS s 1).2.1) 4).2.1) 8).1)), (yi ((takeS ((takeS ((takeS ((takeS s 1).2.1) 4).2.1) 8).2.1) 8).1)), (S ([] : List UInt8))]) ti3 rfl rfl rfl (by simp) rfl (hH39.front 0 rfl) fun w41 hH42 => (za (zc (S ((takeS ((takeS ((takeS ((takeS s 1).2.1) 4).2.1) 8).2.1) 8).2.1)) rfl (zf (ze (hK37 _ _ (yq fun K43 hK43 => (zd (za (zb (S s) rfl (za (zb (yi ((takeS s 1).1)) rfl (za (zD (a := 21) (b := (takeS s 1).1) rfl rfl (w64 (by omega) (by omega)) (za (o_ssl Tryz.underlying9 rfl rfl rfl (by omega) (by omega) (by omega) ?_))))))))))))))))))))))))))
   refine za (zg (k := 3) (fun _ => by kernel_rfl) rfl (zB (zH (c' := #[(yi ((takeS ((takeS s 1).2.1) 4).1)), (yi ((takeS ((takeS ((takeS s 1).2.1) 4).2.1) 8).1)), (yi ((takeS ((takeS ((takeS ((takeS s 1).2.1) 4).2.1) 8).2.1) 8).1)), (S ((s.take (21 + ((takeS s 1).1)).toNat).drop 21))]) ti9 rfl rfl rfl (by simp) rfl (hH42.front 0 rfl) fun w44 hH45 => (zf (ze (hK43 _ _ (yq fun K46 hK46 => (yq fun K47 hK47 => (Rest.region mixed (by kernel_rfl) ?_)))))))))
   have hH48 : Has E { w44 with drawn := w44.drawn + 1 } [(yo b22 #[(yi ((takeS ((takeS s 1).2.1) 4).1)), (yi ((takeS ((takeS ((takeS s 1).2.1) 4).2.1) 8).1)), (yi ((takeS ((takeS ((takeS ((takeS s 1).2.1) 4).2.1) 8).2.1) 8).1)), (S ((s.take (21 + ((takeS s 1).1)).toNat).drop 21))] 176), (yo b2 #[(yi 0), (yi 0), (yi 0), (S ([] : List UInt8))] 176), R] := Has0.drew hH45 _
   refine zO 0 rfl (by kernel_rfl) (zG (cs := [(yi ((takeS ((takeS s 1).2.1) 4).1)), (yi ((takeS ((takeS ((takeS s 1).2.1) 4).2.1) 8).1)), (yi ((takeS ((takeS ((takeS ((takeS s 1).2.1) 4).2.1) 8).2.1) 8).1)), (S ((s.take (21 + ((takeS s 1).1)).toNat).drop 21))]) Tryz.underlying176 rfl ti176 rfl hH48 (zh 0 rfl) (CellsAt.one rfl) (zO 1 rfl (by kernel_rfl) (zk (vs := #[(.agg #[(yi ((takeS ((takeS s 1).2.1) 4).1)), (yi ((takeS ((takeS ((takeS s 1).2.1) 4).2.1) 8).1)), (yi ((takeS ((takeS ((takeS ((takeS s 1).2.1) 4).2.1) 8).2.1) 8).1)), (S ((s.take (21 + ((takeS s 1).1)).toNat).drop 21))])]) ca197 rfl (zI rfl) (right_c hH48.all (Fr.mk ((takeS ((takeS s 1).2.1) 4).1) ((takeS ((takeS ((takeS s 1).2.1) 4).2.1) 8).1) ((takeS ((takeS ((takeS ((takeS s 1).2.1) 4).2.1) 8).2.1) 8).1) ((s.take (21 + ((takeS s 1).1)).toNat).drop 21)) (by simp only [List.length_drop, List.length_take]; omega)) ?_)))
   rintro _ w51 ⟨rfl, hX49⟩
   refine ⟨_, rfl, ?_⟩
   have hH50 := hX49.of_all
   refine zO 2 rfl (by kernel_rfl) (o_not rfl (zO 3 rfl (by kernel_rfl) (zb (.bool (!(rightS (Fr.mk ((takeS ((takeS s 1).2.1) 4).1) ((takeS ((takeS ((takeS s 1).2.1) 4).2.1) 8).1) ((takeS ((takeS ((takeS ((takeS s 1).2.1) 4).2.1) 8).2.1) 8).1) ((s.take (21 + ((takeS s 1).1)).toNat).drop 21))))) rfl (Rest.phaseA (fun w_ => Has E w_ [(yo b22 #[(yi ((takeS ((takeS s 1).2.1) 4).1)), (yi ((takeS ((takeS ((takeS s 1).2.1) 4).2.1) 8).1)), (yi ((takeS ((takeS ((takeS ((takeS s 1).2.1) 4).2.1) 8).2.1) 8).1)), (S ((s.take (21 + ((takeS s 1).1)).toNat).drop 21))] 176)]) 4 10 6 rfl (by decide) (by kernel_rfl) ?_))))
   rcases Bool.eq_false_or_eq_true (!(rightS (Fr.mk ((takeS ((takeS s 1).2.1) 4).1) ((takeS ((takeS ((takeS s 1).2.1) 4).2.1) 8).1) ((takeS ((takeS ((takeS ((takeS s 1).2.1) 4).2.1) 8).2.1) 8).1) ((s.take (21 + ((takeS s 1).1)).toNat).drop 21)))) with h52 | h52
   ·
    refine yd (b' := true) 4 rfl (by kernel_rfl) 54 rfl (congrArg Value.bool h52) rfl (yd (b' := true) 6 rfl (by kernel_rfl) 54 rfl (congrArg Value.bool h52) rfl (yd (b' := true) 7 rfl (by kernel_rfl) 54 rfl (congrArg Value.bool h52) rfl (yd (b' := true) 8 rfl (by kernel_rfl) 54 rfl (congrArg Value.bool h52) rfl (yd (b' := true) 9 rfl (by kernel_rfl) 54 rfl (congrArg Value.bool h52) rfl (yd (b' := true) 5 rfl (by kernel_rfl) 54 rfl (congrArg Value.bool h52) rfl ?_)))))
    have hH53 := hH50.first 1 rfl
    refine zM (by kernel_rfl) hH53 (r_off (b' := true) 10 rfl (by kernel_rfl) 54 rfl (congrArg Value.bool h52) rfl (zO 11 rfl (by kernel_rfl) (zq (u := (.bool true)) ((rfl : _ = _).trans (congrArg Value.bool h52)) rfl (Rest.done (by kernel_rfl) (ze (hK47 _ _ (zP rfl rfl (yq fun K54 hK54 => (zd (za (zJ (v := (.agg #[(yi 0), (yi 0), (yi 0), (S ([] : List UInt8))])) (fun _ => by kernel_rfl) (zB (zv (vs := [(yi 0), (yi 0), (yi 0), (S ([] : List UInt8))]) (c' := #[(yi 0), (yi 0), (yi 0), (S ([] : List UInt8))]) ti176 rfl rfl rfl rfl (by intro u hu; simp only [List.mem_cons, List.not_mem_nil, or_false] at hu; rcases hu with rfl | rfl | rfl | rfl <;> first | rfl) (by simp) (by kernel_rfl) (hH50.front 1 rfl) fun w55 hH56 => (za (zc (yi 0) rfl (za (zc (.bool false) rfl (zf (ze (hK54 _ _ (wp_ret ?_)))))))))))))))))))))
    refine zx (c_retC3 Tryz.results193 rfl (zu (cs := [(yi 0), (yi 0), (yi 0), (S ([] : List UInt8))]) Tryz.underlying176 rfl ti176 hH56 (zh 0 rfl) (CellsAt.one rfl)) (x := (yi 0)) rfl (y := (.bool false)) rfl ?_)
    have hH57 := (hH56.front 2 rfl).first 1 rfl
    have ho : opensB s = false := opens_no3 (not_t h52)
    exact ⟨by unfold oF oN; rw [ho]; rfl, hH57⟩
   ·
    refine a_on 4 rfl (by kernel_rfl) 54 rfl (congrArg Value.bool h52) (fun w_ h_ => zG (cs := [(yi ((takeS ((takeS s 1).2.1) 4).1)), (yi ((takeS ((takeS ((takeS s 1).2.1) 4).2.1) 8).1)), (yi ((takeS ((takeS ((takeS ((takeS s 1).2.1) 4).2.1) 8).2.1) 8).1)), (S ((s.take (21 + ((takeS s 1).1)).toNat).drop 21))]) Tryz.underlying176 rfl ti176 rfl h_ (zh 0 rfl) (CellsAt.one rfl) ⟨rfl, rfl⟩) (a_on 6 rfl (by kernel_rfl) 54 rfl (congrArg Value.bool h52) (fun w_ h_ => zb (S s) rfl ⟨rfl, rfl⟩) (a_on 7 rfl (by kernel_rfl) 54 rfl (congrArg Value.bool h52) (fun w_ h_ => zb (yi ((takeS s 1).1)) rfl ⟨rfl, rfl⟩) (a_on 8 rfl (by kernel_rfl) 54 rfl (congrArg Value.bool h52) (fun w_ h_ => zD (a := (takeS s 1).1) (b := 25) rfl rfl (w64 (by omega) (by omega)) ⟨rfl, rfl⟩) (a_on 9 rfl (by kernel_rfl) 54 rfl (congrArg Value.bool h52) (fun w_ h_ => o_ssl_h Tryz.underlying9 rfl rfl (by omega) (by omega) ⟨rfl, rfl⟩) ?_))))
    have hH58 := hH50.first 1 rfl
    refine a_won 5 rfl (by kernel_rfl) hH58 54 rfl (congrArg Value.bool h52) (zk (vs := #[(.agg #[(yi ((takeS ((takeS s 1).2.1) 4).1)), (yi ((takeS ((takeS ((takeS s 1).2.1) 4).2.1) 8).1)), (yi ((takeS ((takeS ((takeS ((takeS s 1).2.1) 4).2.1) 8).2.1) 8).1)), (S ((s.take (21 + ((takeS s 1).1)).toNat).drop 21))]), (.slice none 0 0)]) ca107 rfl (zF rfl rfl) (make1_c hH50.all (hg.mono (zh 2 rfl)) (Fr.mk ((takeS ((takeS s 1).2.1) 4).1) ((takeS ((takeS ((takeS s 1).2.1) 4).2.1) 8).1) ((takeS ((takeS ((takeS ((takeS s 1).2.1) 4).2.1) 8).2.1) 8).1) ((s.take (21 + ((takeS s 1).1)).toNat).drop 21)) (by simp only [List.length_drop, List.length_take]; omega)) ?_)
    rintro _ w61 ⟨rfl, hX59⟩
    refine ⟨_, rfl, ?_⟩
    have hH60 := hX59.of_all
    have hH62 := hH60.first 1 rfl
    refine zM (by kernel_rfl) hH62 (r_on 10 rfl (by kernel_rfl) 54 rfl (congrArg Value.bool h52) (o_sneq (a := (makeS (Fr.mk ((takeS ((takeS s 1).2.1) 4).1) ((takeS ((takeS ((takeS s 1).2.1) 4).2.1) 8).1) ((takeS ((takeS ((takeS ((takeS s 1).2.1) 4).2.1) 8).2.1) 8).1) ((s.take (21 + ((takeS s 1).1)).toNat).drop 21)))) (b := s.take (((takeS s 1).1) + 25).toNat) rfl rfl (zO 11 rfl (by kernel_rfl) (zm (u := (.bool (decide ((makeS (Fr.mk ((takeS ((takeS s 1).2.1) 4).1) ((takeS ((takeS ((takeS s 1).2.1) 4).2.1) 8).1) ((takeS ((takeS ((takeS ((takeS s 1).2.1) 4).2.1) 8).2.1) 8).1) ((s.take (21 + ((takeS s 1).1)).toNat).drop 21))) ≠ s.take (((takeS s 1).1) + 25).toNat)))) ((rfl : _ = _).trans (congrArg Value.bool h52)) rfl (Rest.done (by kernel_rfl) (ze (hK47 _ _ (zt rfl (fun h63 => ?_) (fun h63 => ?_)))))))))
    ·
     refine yq fun K64 hK64 => (zd (za (zJ (v := (.agg #[(yi 0), (yi 0), (yi 0), (S ([] : List UInt8))])) (fun _ => by kernel_rfl) (zB (zv (vs := [(yi 0), (yi 0), (yi 0), (S ([] : List UInt8))]) (c' := #[(yi 0), (yi 0), (yi 0), (S ([] : List UInt8))]) ti176 rfl rfl rfl rfl (by intro u hu; simp only [List.mem_cons, List.not_mem_nil, or_false] at hu; rcases hu with rfl | rfl | rfl | rfl <;> first | rfl) (by simp) (by kernel_rfl) (hH60.front 1 rfl) fun w65 hH66 => (za (zc (yi 0) rfl (za (zc (.bool false) rfl (zf (ze (hK64 _ _ (wp_ret (zx (c_retC3 Tryz.results193 rfl (zu (cs := [(yi 0), (yi 0), (yi 0), (S ([] : List UInt8))]) Tryz.underlying176 rfl ti176 hH66 (zh 0 rfl) (CellsAt.one rfl)) (x := (yi 0)) rfl (y := (.bool false)) rfl ?_)))))))))))))))
     have hH67 := (hH66.front 2 rfl).first 1 rfl
     have ho : opensB s = false := opens_no4 h63
     exact ⟨by unfold oF oN; rw [ho]; rfl, hH67⟩
    ·
     refine wp_skip (ze (hK46 _ _ (yq fun K68 hK68 => (zd (za (zG (cs := [(yi ((takeS ((takeS s 1).2.1) 4).1)), (yi ((takeS ((takeS ((takeS s 1).2.1) 4).2.1) 8).1)), (yi ((takeS ((takeS ((takeS ((takeS s 1).2.1) 4).2.1) 8).2.1) 8).1)), (S ((s.take (21 + ((takeS s 1).1)).toNat).drop 21))]) Tryz.underlying176 rfl ti176 rfl hH60 (zh 0 rfl) (CellsAt.one rfl) (za (zb (yi ((takeS s 1).1)) rfl (za (zD (a := (takeS s 1).1) (b := 25) rfl rfl (w64 (by omega) (by omega)) (zB (zv (vs := [(yi ((takeS ((takeS s 1).2.1) 4).1)), (yi ((takeS ((takeS ((takeS s 1).2.1) 4).2.1) 8).1)), (yi ((takeS ((takeS ((takeS ((takeS s 1).2.1) 4).2.1) 8).2.1) 8).1)), (S ((s.take (21 + ((takeS s 1).1)).toNat).drop 21))]) (c' := #[(yi ((takeS ((takeS s 1).2.1) 4).1)), (yi ((takeS ((takeS ((takeS s 1).2.1) 4).2.1) 8).1)), (yi ((takeS ((takeS ((takeS ((takeS s 1).2.1) 4).2.1) 8).2.1) 8).1)), (S ((s.take (21 + ((takeS s 1).1)).toNat).drop 21))]) ti176 rfl rfl rfl rfl (by intro u hu; simp only [List.mem_cons, List.not_mem_nil, or_false] at hu; rcases hu with rfl | rfl | rfl | rfl <;> first | rfl) (by simp) (by kernel_rfl) (hH60.front 1 rfl) fun w69 hH70 => (za (zc (yi (((takeS s 1).1) + 25)) rfl (za (zc (.bool true) rfl (zf (ze (hK68 _ _ (wp_ret (c_retC3 Tryz.results193 rfl (zu (cs := [(yi ((takeS ((takeS s 1).2.1) 4).1)), (yi ((takeS ((takeS ((takeS s 1).2.1) 4).2.1) 8).1)), (yi ((takeS ((takeS ((takeS ((takeS s 1).2.1) 4).2.1) 8).2.1) 8).1)), (S ((s.take (21 + ((takeS s 1).1)).toNat).drop 21))]) Tryz.underlying176 rfl ti176 hH70 (zh 0 rfl) (CellsAt.one rfl)) (x := (yi (((takeS s 1).1) + 25))) rfl (y := (.bool true)) rfl ?_)))))))))))))))))))))
     have hH71 := (hH70.front 2 rfl).first 1 rfl
     have ho : opensB s = true := opens_yes (not_f h11) (by omega) (not_f h52) (Classical.not_not.1 h63)
     exact ⟨by unfold oF oN; rw [if_pos ho, if_pos ho, ho]; rfl, hH71⟩
theorem ffits_c {E w : World} {R : List Hp} (hH : Has E w [R]) (f : Fr) (hfl : f.data.length ≤ 9223372036854775807) (re rc pl ab : Int) :
  Calls Tryz.prog 194 #[(.agg #[(yi re), (yi rc)]), (.agg #[(yi f.ep), (yi f.pl), (yi f.gsn), (S f.data)]), (yi pl), (yi ab)] w fun e w' => e = .returned (.bool (fitsF re rc pl ab f)) ∧ Has E w' [R] := by
 refine zs (args := [(.agg #[(yi re), (yi rc)]), (.agg #[(yi f.ep), (yi f.pl), (yi f.gsn), (S f.data)]), (yi pl), (yi ab)]) Tryz.func194 rfl Tryz.ntmps194 (by simp) (yq fun K1 hK1 => (zd (za (o_box (cs := #[(yi re), (yi rc)]) rfl rfl hH fun b2 w3 hH4 => (za (o_box (cs := #[(yi f.ep), (yi f.pl), (yi f.gsn), (S f.data)]) rfl rfl hH4 fun b5 w6 hH7 => (za (zc (.bool false) rfl (zf (ze (hK1 _ _ (yq fun K8 hK8 => (zd (za (zG (cs := [(yi f.ep), (yi f.pl), (yi f.gsn), (S f.data)]) Tryz.underlying176 rfl ti176 rfl hH7 (zh 0 rfl) (CellsAt.one rfl) (za (zk (vs := #[(.agg #[(yi f.ep), (yi f.pl), (yi f.gsn), (S f.data)])]) ca197 rfl (zI rfl) (right_c hH7.all f (by omega)) ?_)))))))))))))))))
 rintro _ w11 ⟨rfl, hX9⟩
 refine ⟨_, rfl, ?_⟩
 have hH10 := hX9.of_all
 refine za (zb (.bool (rightS f)) rfl ?_)
 rcases Bool.eq_false_or_eq_true (rightS f) with h12 | h12
 ·
  refine zo 11 rfl (congrArg Value.bool h12) (zg (k := 1) (fun _ => by kernel_rfl) rfl (zo 11 rfl (congrArg Value.bool h12) (zj (v := (yi f.pl)) Tryz.underlying3 rfl rfl hH10 (zh 0 rfl) (CellsAt.one rfl) (zo 11 rfl (congrArg Value.bool h12) (zb (yi pl) rfl (zo 11 rfl (congrArg Value.bool h12) (yc (a := f.pl) (b := pl) rfl rfl (za (zq (u := (.bool (decide (f.pl = pl)))) ((rfl : _ = _).trans (congrArg Value.bool h12)) rfl (za (zb (.bool (decide (f.pl = pl))) rfl ?_)))))))))))
  by_cases h13 : f.pl = pl
  ·
   refine zo 17 rfl (cT h13) (zg (k := 2) (fun _ => by kernel_rfl) rfl (zo 17 rfl (cT h13) (zj (v := (yi f.gsn)) Tryz.underlying3 rfl rfl hH10 (zh 0 rfl) (CellsAt.one rfl) (zo 17 rfl (cT h13) (zb (yi ab) rfl (zo 17 rfl (cT h13) (o_gtr (a := f.gsn) (b := ab) rfl rfl (za (zq (u := (.bool (decide (ab < f.gsn)))) ((rfl : _ = _).trans (cT h13)) rfl (za (zb (.bool (decide (ab < f.gsn))) rfl ?_)))))))))))
   by_cases h14 : ab < f.gsn
   ·
    refine zo 23 rfl (cT h14) (zg (k := 0) (fun _ => by kernel_rfl) rfl (zo 23 rfl (cT h14) (zj (v := (yi f.ep)) Tryz.underlying3 rfl rfl hH10 (zh 0 rfl) (CellsAt.one rfl) (zo 23 rfl (cT h14) (zg (k := 0) (fun _ => by kernel_rfl) rfl (zo 23 rfl (cT h14) (zj (v := (yi re)) Tryz.underlying3 rfl rfl hH10 (zh 1 rfl) (CellsAt.one rfl) (zo 23 rfl (cT h14) (o_leq (a := f.ep) (b := re) rfl rfl (za (zq (u := (.bool (decide (f.ep ≤ re)))) ((rfl : _ = _).trans (cT h14)) rfl (za (zb (.bool (decide (f.ep ≤ re))) rfl ?_)))))))))))))
    by_cases h15 : f.ep ≤ re
    ·
     refine zo 30 rfl (cT h15) (zg (k := 1) (fun _ => by kernel_rfl) rfl (zo 30 rfl (cT h15) (zj (v := (yi f.pl)) Tryz.underlying3 rfl rfl hH10 (zh 0 rfl) (CellsAt.one rfl) (zo 30 rfl (cT h15) (zg (k := 1) (fun _ => by kernel_rfl) rfl (zo 30 rfl (cT h15) (zj (v := (yi rc)) Tryz.underlying3 rfl rfl hH10 (zh 1 rfl) (CellsAt.one rfl) (zo 30 rfl (cT h15) (zL (a := f.pl) (b := rc) rfl rfl (zo 30 rfl (cT h15) (zb (.bool (decide (f.pl < rc))) rfl ?_)))))))))))
     by_cases h16 : f.pl < rc
     ·
      refine zi (b' := true) 36 rfl (cT h16) rfl (zi (b' := true) 36 rfl (cT h16) rfl (zi (b' := true) 36 rfl (cT h16) rfl (zi (b' := true) 36 rfl (cT h16) rfl (zi (b' := true) 36 rfl (cT h16) rfl (zo 30 rfl (cT h15) (zq (u := (.bool true)) ((rfl : _ = _).trans (cT h16)) rfl (za (zq (u := (.bool true)) ((rfl : _ = _).trans (cT h15)) rfl (za (zc (.bool true) rfl (zf (ze (hK8 _ _ (wp_ret (zr Tryz.results194  (v := (.bool true)) rfl ?_)))))))))))))))
      have hH17 := (hH10.front 2 rfl).first 1 rfl
      exact ⟨by rw [fitsF, h12, Bool.true_and]; exact congrArg (fun b => Ending.returned (.bool b)) ((decide_eq_true (by omega)).symm), hH17⟩
     ·
      refine zo 36 rfl (cF h16) (zg (k := 0) (fun _ => by kernel_rfl) rfl (zo 36 rfl (cF h16) (zj (v := (yi f.ep)) Tryz.underlying3 rfl rfl hH10 (zh 0 rfl) (CellsAt.one rfl) (zo 36 rfl (cF h16) (zg (k := 0) (fun _ => by kernel_rfl) rfl (zo 36 rfl (cF h16) (zj (v := (yi re)) Tryz.underlying3 rfl rfl hH10 (zh 1 rfl) (CellsAt.one rfl) (zo 36 rfl (cF h16) (yc (a := f.ep) (b := re) rfl rfl (zo 30 rfl (cT h15) (zm (u := (.bool (decide (f.ep = re)))) ((rfl : _ = _).trans (cF h16)) rfl (za (zq (u := (.bool (decide (f.ep = re)))) ((rfl : _ = _).trans (cT h15)) rfl (za (zc (.bool (decide (f.ep = re))) rfl (zf (ze (hK8 _ _ (wp_ret (zr Tryz.results194  (v := (.bool (decide (f.ep = re)))) rfl ?_))))))))))))))))))))
      have hH18 := (hH10.front 2 rfl).first 1 rfl
      exact ⟨by rw [fitsF, h12, Bool.true_and]; exact congrArg (fun b => Ending.returned (.bool b)) (decide_eq_decide.2 (by omega)), hH18⟩
    ·
     refine zi (b' := false) 30 rfl (cF h15) rfl (zi (b' := false) 30 rfl (cF h15) rfl (zi (b' := false) 30 rfl (cF h15) rfl (zi (b' := false) 30 rfl (cF h15) rfl (zi (b' := false) 30 rfl (cF h15) rfl (zi (b' := false) 30 rfl (cF h15) rfl (zE 36 rfl rfl (zE 36 rfl rfl (zE 36 rfl rfl (zE 36 rfl rfl (zE 36 rfl rfl (zi (b' := false) 30 rfl (cF h15) rfl (za (zm (u := (.bool false)) ((rfl : _ = _).trans (cF h15)) rfl (za (zc (.bool false) rfl (zf ?_))))))))))))))))
     refine ze (hK8 _ _ (wp_ret (zr Tryz.results194  (v := (.bool false)) rfl ?_)))
     have hH19 := (hH10.front 2 rfl).first 1 rfl
     exact ⟨by rw [fitsF, h12, Bool.true_and]; exact congrArg (fun b => Ending.returned (.bool b)) ((decide_eq_false (by omega)).symm), hH19⟩
   ·
    refine zi (b' := false) 23 rfl (cF h14) rfl (zi (b' := false) 23 rfl (cF h14) rfl (zi (b' := false) 23 rfl (cF h14) rfl (zi (b' := false) 23 rfl (cF h14) rfl (zi (b' := false) 23 rfl (cF h14) rfl (za (zm (u := (.bool false)) ((rfl : _ = _).trans (cF h14)) rfl (za (zb (.bool false) rfl (zi (b' := false) 30 rfl rfl rfl (zi (b' := false) 30 rfl rfl rfl (zi (b' := false) 30 rfl rfl rfl (zi (b' := false) 30 rfl rfl rfl (zi (b' := false) 30 rfl rfl rfl (zi (b' := false) 30 rfl rfl rfl (zE 36 rfl rfl (zE 36 rfl rfl ?_))))))))))))))))
    refine zE 36 rfl rfl (zE 36 rfl rfl (zE 36 rfl rfl (zi (b' := false) 30 rfl rfl rfl (za (zm (u := (.bool false)) rfl rfl (za (zc (.bool false) rfl (zf (ze (hK8 _ _ (wp_ret (zr Tryz.results194  (v := (.bool false)) rfl ?_))))))))))))
    have hH20 := (hH10.front 2 rfl).first 1 rfl
    exact ⟨by rw [fitsF, h12, Bool.true_and]; exact congrArg (fun b => Ending.returned (.bool b)) ((decide_eq_false (by omega)).symm), hH20⟩
  ·
   refine zi (b' := false) 17 rfl (cF h13) rfl (zi (b' := false) 17 rfl (cF h13) rfl (zi (b' := false) 17 rfl (cF h13) rfl (zi (b' := false) 17 rfl (cF h13) rfl (za (zm (u := (.bool false)) ((rfl : _ = _).trans (cF h13)) rfl (za (zb (.bool false) rfl (zi (b' := false) 23 rfl rfl rfl (zi (b' := false) 23 rfl rfl rfl (zi (b' := false) 23 rfl rfl rfl (zi (b' := false) 23 rfl rfl rfl (zi (b' := false) 23 rfl rfl rfl (za (zm (u := (.bool false)) rfl rfl (za (zb (.bool false) rfl (zi (b' := false) 30 rfl rfl rfl (zi (b' := false) 30 rfl rfl rfl ?_))))))))))))))))))
   refine zi (b' := false) 30 rfl rfl rfl (zi (b' := false) 30 rfl rfl rfl (zi (b' := false) 30 rfl rfl rfl (zi (b' := false) 30 rfl rfl rfl (zE 36 rfl rfl (zE 36 rfl rfl (zE 36 rfl rfl (zE 36 rfl rfl (zE 36 rfl rfl (zi (b' := false) 30 rfl rfl rfl (za (zm (u := (.bool false)) rfl rfl (za (zc (.bool false) rfl (zf (ze (hK8 _ _ (wp_ret ?_)))))))))))))))))
   refine zr Tryz.results194  (v := (.bool false)) rfl ?_
   have hH21 := (hH10.front 2 rfl).first 1 rfl
   exact ⟨by rw [fitsF, h12, Bool.true_and]; exact congrArg (fun b => Ending.returned (.bool b)) ((decide_eq_false (by omega)).symm), hH21⟩
 ·
  refine zi (b' := false) 11 rfl (congrArg Value.bool h12) rfl (zi (b' := false) 11 rfl (congrArg Value.bool h12) rfl (zi (b' := false) 11 rfl (congrArg Value.bool h12) rfl (zi (b' := false) 11 rfl (congrArg Value.bool h12) rfl (za (zm (u := (.bool false)) ((rfl : _ = _).trans (congrArg Value.bool h12)) rfl (za (zb (.bool false) rfl (zi (b' := false) 17 rfl rfl rfl (zi (b' := false) 17 rfl rfl rfl (zi (b' := false) 17 rfl rfl rfl (zi (b' := false) 17 rfl rfl rfl (za (zm (u := (.bool false)) rfl rfl (za (zb (.bool false) rfl (zi (b' := false) 23 rfl rfl rfl (zi (b' := false) 23 rfl rfl rfl (zi (b' := false) 23 rfl rfl rfl ?_))))))))))))))))))
  refine zi (b' := false) 23 rfl rfl rfl (zi (b' := false) 23 rfl rfl rfl (za (zm (u := (.bool false)) rfl rfl (za (zb (.bool false) rfl (zi (b' := false) 30 rfl rfl rfl (zi (b' := false) 30 rfl rfl rfl (zi (b' := false) 30 rfl rfl rfl (zi (b' := false) 30 rfl rfl rfl (zi (b' := false) 30 rfl rfl rfl (zi (b' := false) 30 rfl rfl rfl (zE 36 rfl rfl (zE 36 rfl rfl (zE 36 rfl rfl (zE 36 rfl rfl (zE 36 rfl rfl ?_))))))))))))))))
  refine zi (b' := false) 30 rfl rfl rfl (za (zm (u := (.bool false)) rfl rfl (za (zc (.bool false) rfl (zf (ze (hK8 _ _ (wp_ret (zr Tryz.results194  (v := (.bool false)) rfl ?_)))))))))
  have hH22 := (hH10.front 2 rfl).first 1 rfl
  exact ⟨by rw [fitsF, h12]; rfl, hH22⟩
end Go.Q
namespace Go.Q
open Go.Proofs
set_option linter.unusedVariables false
set_option maxRecDepth 100000
attribute [local irreducible] wpList OK Code.wp
theorem chain_c {E w : World} {R : List Hp} (hH : Has E w [R]) (hg : CellsAt R 0 0 nibV) (t : List UInt8) (htl : t.length ≤ 1000000) (re rc pl ab : Int) (hpl0 : -9000000000000000000 ≤ pl ∧ pl ≤ 9000000000000000000) :
  Calls Tryz.prog 100 #[(.agg #[(yi re), (yi rc)]), (S t), (yi pl), (yi ab)] w fun e w' => ∃ v' hs', e = .returned (.tuple #[v', .int .i64 (chainS re rc (t.length + 1) t pl ab).2]) ∧ Own 176 4 v' (chainS re rc (t.length + 1) t pl ab).1.length ((chainS re rc (t.length + 1) t pl ab).1.flatMap frC) hs' ∧ Has E w' [hs', R] := by
 refine zs (args := [(.agg #[(yi re), (yi rc)]), (S t), (yi pl), (yi ab)]) Tryz.func100 rfl Tryz.ntmps100 (by simp) (yq fun K1 hK1 => (zd (za (o_box (cs := #[(yi re), (yi rc)]) rfl rfl hH fun b2 w3 hH4 => (za (zc (.slice none 0 0) rfl (za (zc (yi 0) rfl (zf (ze (hK1 _ _ (yq fun K5 hK5 => (zd (za (zc (.slice none 0 0) rfl (zf (ze (hK5 _ _ (yq fun K6 hK6 => (wp_block ?_))))))))))))))))))))
 let I8 : Nat → (Nat → Value) → World → Prop := fun n__ r__ w__ => ∃ (n : Nat) (cur : List UInt8) (pl2 : Int) (ab2 : Int) (va : Value) (ha : List Hp) (acc : List Fr), n__ = n + 1 ∧ Has E w__ [ha, (yo b2 #[(yi re), (yi rc)] 170), R] ∧ (cur.length < n) ∧ (Own 176 4 va acc.length (acc.flatMap frC) ha) ∧ (pl2 + (cur.length : Int) = pl + (t.length : Int)) ∧ (25 * acc.length + cur.length ≤ t.length) ∧ ((chainS re rc (t.length + 1) t pl ab) = (acc ++ (chainS re rc n cur pl2 ab2).1, (chainS re rc n cur pl2 ab2).2)) ∧ r__ 0 = (.agg #[(yi re), (yi rc)]) ∧ r__ 1 = (S cur) ∧ r__ 2 = (yi pl2) ∧ r__ 3 = (yi ab2) ∧ r__ 4 = (yp b2) ∧ r__ 8 = (.slice none 0 0) ∧ r__ 9 = (yi 0) ∧ r__ 10 = va
 have hH9 := (Has.nil ((hH4.front 1 rfl).front 1 rfl)).first 3 rfl
 refine zX I8 _ ⟨(t.length + 1), t, pl, ab, (.slice none 0 0), [], [], rfl, hH9, (by omega), Own.nil 176 4, rfl, (by simp), (by simp), rfl, rfl, rfl, rfl, rfl, rfl, rfl, rfl⟩ ?_
 rintro n_ r12 w10 ⟨n, cur, pl2, ab2, va, ha, acc, rfl, hH11, hn, hoa, hpl, hal, hch, e7_0, e7_1, e7_2, e7_3, e7_4, e7_8, e7_9, e7_10⟩
 refine yq fun K13 hK13 => (yq fun K14 hK14 => (zd (za (zb (S cur) e7_1 (za (o_sneq (a := cur) (b := ([] : List UInt8)) rfl rfl (zf (ze (hK14 _ _ (zt rfl (fun h15 => ?_) (fun h15 => ?_)))))))))))
 ·
  refine wp_skip (ze (hK13 _ _ (wp_block (yq fun K16 hK16 => (zd (za (zb (S cur) e7_1 (za (zk (vs := #[(S cur)]) ca193 rfl (zI rfl) (fopen_c hH11.all (hg.mono (zh 2 rfl)) cur (by omega)) ?_)))))))))
  rintro _ w19 ⟨rfl, hX17⟩
  refine ⟨_, rfl, ?_⟩
  have hH18 := hX17.of_all
  refine za (zb (.tuple #[(.agg #[(yi ((oF cur).ep)), (yi ((oF cur).pl)), (yi ((oF cur).gsn)), (S ((oF cur).data))]), (yi (oN cur)), (.bool (opensB cur))]) rfl (za (zp (v := (.agg #[(yi ((oF cur).ep)), (yi ((oF cur).pl)), (yi ((oF cur).gsn)), (S ((oF cur).data))])) rfl rfl (za (zp (v := (yi (oN cur))) rfl rfl (za (zp (v := (.bool (opensB cur))) rfl rfl (za (zU (cs := #[(yi 0), (yi 0), (yi 0), (S ([] : List UInt8))]) ti176 rfl hH18 fun b20 w21 hH22 => (zB (zv (vs := [(yi ((oF cur).ep)), (yi ((oF cur).pl)), (yi ((oF cur).gsn)), (S ((oF cur).data))]) (c' := #[(yi ((oF cur).ep)), (yi ((oF cur).pl)), (yi ((oF cur).gsn)), (S ((oF cur).data))]) ti176 rfl rfl rfl rfl (by intro u hu; simp only [List.mem_cons, List.not_mem_nil, or_false] at hu; rcases hu with rfl | rfl | rfl | rfl <;> first | rfl) (by simp) (by kernel_rfl) (hH22.front 0 rfl) fun w23 hH24 => (za (zc (yi (oN cur)) rfl (za (zc (.bool (opensB cur)) rfl (zf (ze (hK16 _ _ (yq fun K25 hK25 => (yq fun K26 hK26 => (zd (za (zb (.bool (opensB cur)) rfl (za (o_not rfl ?_)))))))))))))))))))))))))
  refine za (zb (.bool (!(opensB cur))) rfl ?_)
  rcases Bool.eq_false_or_eq_true (!(opensB cur)) with h27 | h27
  ·
   refine zi (b' := true) 24 rfl (congrArg Value.bool h27) rfl (zi (b' := true) 24 rfl (congrArg Value.bool h27) rfl (zi (b' := true) 24 rfl (congrArg Value.bool h27) rfl (zi (b' := true) 24 rfl (congrArg Value.bool h27) rfl (zi (b' := true) 24 rfl (congrArg Value.bool h27) rfl (zi (b' := true) 24 rfl (congrArg Value.bool h27) rfl (za (zq (u := (.bool true)) ((rfl : _ = _).trans (congrArg Value.bool h27)) rfl (zf (ze (hK26 _ _ (zP rfl rfl (wp_exit (zy (x_out rfl (zy (x_in ((ze (hK6 _ _ (yq fun K28 hK28 => (zd ?_)))))))))))))))))))))
   refine za (zb va e7_10 (za (zb (yi pl2) e7_2 (za (zc va rfl (za (zc (yi pl2) rfl (zf (ze (hK28 _ _ (wp_ret (ya Tryz.results100  (v := va) rfl (x := (yi pl2)) rfl ?_))))))))))))
   have hH29 := ((hH24.front 3 rfl).front 2 rfl).first 2 rfl
   have he := chain_end (.inl (not_t h27)) hch
   exact ⟨_, _, by rw [he], by rw [he]; exact hoa, hH29⟩
  ·
   have hle := oN_le (not_f h27)
   have hny := oN_yes (not_f h27)
   refine zo 24 rfl (congrArg Value.bool h27) (zG (cs := [(yi re), (yi rc)]) Tryz.underlying170 rfl ti170 e7_4 hH24 (zh 2 rfl) (CellsAt.one rfl) (zo 24 rfl (congrArg Value.bool h27) (zG (cs := [(yi ((oF cur).ep)), (yi ((oF cur).pl)), (yi ((oF cur).gsn)), (S ((oF cur).data))]) Tryz.underlying176 rfl ti176 rfl hH24 (zh 0 rfl) (CellsAt.one rfl) (zo 24 rfl (congrArg Value.bool h27) (zb (yi pl2) e7_2 (zo 24 rfl (congrArg Value.bool h27) (zb (yi ab2) e7_3 (zo 24 rfl (congrArg Value.bool h27) (zk (vs := #[(.agg #[(yi re), (yi rc)]), (.agg #[(yi ((oF cur).ep)), (yi ((oF cur).pl)), (yi ((oF cur).gsn)), (S ((oF cur).data))]), (yi pl2), (yi ab2)]) ca194 rfl (args4 rfl rfl rfl rfl) (ffits_c hH24.all (oF cur) (Nat.le_trans (oF_le cur) (by omega)) re rc pl2 ab2) ?_)))))))))
   rintro _ w32 ⟨rfl, hX30⟩
   refine ⟨_, rfl, ?_⟩
   have hH31 := hX30.of_all
   refine zo 24 rfl (congrArg Value.bool h27) (o_not rfl (za (zm (u := (.bool (!(fitsF re rc pl2 ab2 (oF cur))))) ((rfl : _ = _).trans (congrArg Value.bool h27)) rfl (zf (ze (hK26 _ _ (z7 rfl (fun h33 => ?_) (fun h33 => ?_))))))))
   ·
    have h33_n : (fitsF re rc pl2 ab2 (oF cur)) = false := by first | simpa using h33 | exact Bool.of_not_eq_true (fun g_ => by rw [g_] at h33; cases h33)
    refine wp_exit (zy (x_out rfl (zy (x_in ((ze (hK6 _ _ (yq fun K34 hK34 => (zd (za (zb va e7_10 (za (zb (yi pl2) e7_2 (za (zc va rfl (za (zc (yi pl2) rfl (zf (ze (hK34 _ _ (wp_ret (ya Tryz.results100  (v := va) rfl (x := (yi pl2)) rfl ?_))))))))))))))))))))))
    have hH35 := ((hH31.front 3 rfl).front 2 rfl).first 2 rfl
    have he := chain_end (.inr (not_t h33)) hch
    exact ⟨_, _, by rw [he], by rw [he]; exact hoa, hH35⟩
   ·
    have h33_n : (fitsF re rc pl2 ab2 (oF cur)) = true := by first | simpa using h33 | exact Bool.of_not_eq_false (fun g_ => by rw [g_] at h33; cases h33)
    refine wp_skip (ze (hK25 _ _ (yq fun K36 hK36 => (zd (za (zb va e7_10 (za (zG (cs := [(yi ((oF cur).ep)), (yi ((oF cur).pl)), (yi ((oF cur).gsn)), (S ((oF cur).data))]) Tryz.underlying176 rfl ti176 rfl hH31 (zh 0 rfl) (CellsAt.one rfl) (za (zw (ps := #[(0, (.agg #[(yi ((oF cur).ep)), (yi ((oF cur).pl)), (yi ((oF cur).gsn)), (S ((oF cur).data))]))]) (cells := #[(yi ((oF cur).ep)), (yi ((oF cur).pl)), (yi ((oF cur).gsn)), (S ((oF cur).data))]) Tryz.underlying167 ti176 (by decide) (yb rfl) (by kernel_rfl) hH31 fun b37 w38 hH39 => (za (o_append Tryz.underlying167 ti176 rfl (by decide) rfl hoa rfl (sl_litF (f := frC) (l := [(oF cur)]) frC_len rfl rfl (by simp)) (hH39.front 2 rfl) (zh 0 rfl) (one_fr _) (by simp; omega) (by simp; omega) fun v40 s41 w43 ho42 hH44 => ?_))))))))))))
    have ho42 : Own 176 4 v40 (acc ++ [(oF cur)]).length ((acc ++ [(oF cur)]).flatMap frC) s41 := ho42.appF
    refine za (zc v40 rfl (zf (ze (hK36 _ _ (Rest.region mixed (by kernel_rfl) ?_)))))
    have hH45 : Has E { w43 with drawn := w43.drawn + 1 } [s41, (yo b37 #[(yi ((oF cur).ep)), (yi ((oF cur).pl)), (yi ((oF cur).gsn)), (S ((oF cur).data))] 176), (yo b20 #[(yi ((oF cur).ep)), (yi ((oF cur).pl)), (yi ((oF cur).gsn)), (S ((oF cur).data))] 176), (yo b2 #[(yi re), (yi rc)] 170), R] := Has0.drew hH44 _
    refine Rest.phaseA (fun w_ => Has E w_ [(yo b20 #[(yi ((oF cur).ep)), (yi ((oF cur).pl)), (yi ((oF cur).gsn)), (S ((oF cur).data))] 176)]) 0 10 10 rfl (by decide) (by kernel_rfl) (zn 0 rfl (by kernel_rfl) (fun w_ h_ => zb (S cur) e7_1 ⟨rfl, rfl⟩) (zn 1 rfl (by kernel_rfl) (fun w_ h_ => zb (yi (oN cur)) rfl ⟨rfl, rfl⟩) (zn 2 rfl (by kernel_rfl) (fun w_ h_ => o_ssl_l Tryz.underlying9 rfl rfl (by omega) (by omega) ⟨rfl, rfl⟩) (zn 3 rfl (by kernel_rfl) (fun w_ h_ => zb (yi pl2) e7_2 ⟨rfl, rfl⟩) (zn 4 rfl (by kernel_rfl) (fun w_ h_ => zb (yi (oN cur)) rfl ⟨rfl, rfl⟩) (zn 5 rfl (by kernel_rfl) (fun w_ h_ => zD (a := pl2) (b := (oN cur)) rfl rfl (w64 (by omega) (by omega)) ⟨rfl, rfl⟩) (zn 6 rfl (by kernel_rfl) (fun w_ h_ => zg (k := 2) (fun _ => by kernel_rfl) rfl ⟨rfl, rfl⟩) (zn 7 rfl (by kernel_rfl) (fun w_ h_ => zj (v := (yi ((oF cur).gsn))) Tryz.underlying3 rfl rfl h_ (zh 0 rfl) (CellsAt.one rfl) ⟨rfl, rfl⟩) (zn 8 rfl (by kernel_rfl) (fun w_ h_ => zc (S (cur.drop ((oN cur)).toNat)) rfl ⟨rfl, rfl⟩) (zn 9 rfl (by kernel_rfl) (fun w_ h_ => zc (yi (pl2 + (oN cur))) rfl ⟨rfl, rfl⟩) ?_))))))))))
    have hH46 := (hH45.front 2 rfl).first 1 rfl
    refine zM (by kernel_rfl) hH46 (zO 10 rfl (by kernel_rfl) (zc (yi ((oF cur).gsn)) rfl (Rest.done (by kernel_rfl) (zC ?_))))
    have hH47 := (((hH45.front 4 rfl).front 4 rfl).front 2 rfl).first 3 rfl
    refine ze ⟨(n - 1) + 1, _, rfl, ?_, ?_⟩
    · omega
    · exact ⟨(n - 1), (cur.drop ((oN cur)).toNat), (pl2 + (oN cur)), ((oF cur).gsn), v40, s41, (acc ++ [(oF cur)]), rfl, hH47, (by simp only [List.length_drop]; omega), (ho42), (by simp only [List.length_drop]; omega), (by simp only [List.length_append, List.length_cons, List.length_nil, List.length_drop]; omega), (by exact chain_step (by omega) (not_f h27) (not_f h33) hch), e7_0, rfl, rfl, rfl, e7_4, e7_8, e7_9, rfl⟩
 ·
  refine wp_exit (zy (zy (x_in ((ze (hK6 _ _ (yq fun K48 hK48 => (zd (za (zb va e7_10 (za (zb (yi pl2) e7_2 (za (zc va rfl (za (zc (yi pl2) rfl (zf (ze (hK48 _ _ (wp_ret (ya Tryz.results100  (v := va) rfl (x := (yi pl2)) rfl ?_)))))))))))))))))))))
  have hH49 := ((hH11.front 2 rfl).front 1 rfl).first 2 rfl
  have he := chain_end (.inl (by rw [show cur = [] from Classical.not_not.1 h15]; exact opens_nil)) hch
  exact ⟨_, _, by rw [he], by rw [he]; exact hoa, hH49⟩
end Go.Q
namespace Go.Q
open Go.Proofs
set_option linter.unusedVariables false
set_option maxRecDepth 100000
attribute [local irreducible] wpList OK Code.wp
theorem refright_c {E w : World} {R : List Hp} (hH : Has E w [R]) (f : Fr) (hfl : f.data.length ≤ 9223372036854775807) :
  Calls Tryz.prog 183 #[(.agg #[(yi f.ep), (yi f.pl), (yi f.gsn), (S f.data)])] w fun e w' => e = .returned (.bool (rightS f)) ∧ Has E w' [R] := by
 refine zs (args := [(.agg #[(yi f.ep), (yi f.pl), (yi f.gsn), (S f.data)])]) Tryz.func183 rfl Tryz.ntmps183 (by simp) (yq fun K1 hK1 => (zd (za (o_box (cs := #[(yi f.ep), (yi f.pl), (yi f.gsn), (S f.data)]) rfl rfl hH fun b2 w3 hH4 => (za (zc (.bool false) rfl (zf (ze (hK1 _ _ (yq fun K5 hK5 => (zd (za (zg (k := 0) (fun _ => by kernel_rfl) rfl (za (zj (v := (yi f.ep)) Tryz.underlying3 rfl rfl hH4 (zh 0 rfl) (CellsAt.one rfl) (za (o_geq (a := f.ep) (b := 0) rfl rfl (za (zb (.bool (decide (0 ≤ f.ep))) rfl ?_)))))))))))))))))))
 by_cases h6 : 0 ≤ f.ep
 ·
  refine zo 6 rfl (cT h6) (zg (k := 0) (fun _ => by kernel_rfl) rfl (zo 6 rfl (cT h6) (zj (v := (yi f.ep)) Tryz.underlying3 rfl rfl hH4 (zh 0 rfl) (CellsAt.one rfl) (zo 6 rfl (cT h6) (zL (a := f.ep) (b := 2147483648) rfl rfl (za (zq (u := (.bool (decide (f.ep < 2147483648)))) ((rfl : _ = _).trans (cT h6)) rfl (za (zb (.bool (decide (f.ep < 2147483648))) rfl ?_)))))))))
  by_cases h7 : f.ep < 2147483648
  ·
   refine zo 11 rfl (cT h7) (zg (k := 1) (fun _ => by kernel_rfl) rfl (zo 11 rfl (cT h7) (zj (v := (yi f.pl)) Tryz.underlying3 rfl rfl hH4 (zh 0 rfl) (CellsAt.one rfl) (zo 11 rfl (cT h7) (o_geq (a := f.pl) (b := 0) rfl rfl (za (zq (u := (.bool (decide (0 ≤ f.pl)))) ((rfl : _ = _).trans (cT h7)) rfl (za (zb (.bool (decide (0 ≤ f.pl))) rfl ?_)))))))))
   by_cases h8 : 0 ≤ f.pl
   ·
    refine zo 16 rfl (cT h8) (zg (k := 1) (fun _ => by kernel_rfl) rfl (zo 16 rfl (cT h8) (zj (v := (yi f.pl)) Tryz.underlying3 rfl rfl hH4 (zh 0 rfl) (CellsAt.one rfl) (zo 16 rfl (cT h8) (zL (a := f.pl) (b := 4611686018427387904) rfl rfl (za (zq (u := (.bool (decide (f.pl < 4611686018427387904)))) ((rfl : _ = _).trans (cT h8)) rfl (za (zb (.bool (decide (f.pl < 4611686018427387904))) rfl ?_)))))))))
    by_cases h9 : f.pl < 4611686018427387904
    ·
     refine zo 21 rfl (cT h9) (zg (k := 2) (fun _ => by kernel_rfl) rfl (zo 21 rfl (cT h9) (zj (v := (yi f.gsn)) Tryz.underlying3 rfl rfl hH4 (zh 0 rfl) (CellsAt.one rfl) (zo 21 rfl (cT h9) (o_geq (a := f.gsn) (b := 0) rfl rfl (za (zq (u := (.bool (decide (0 ≤ f.gsn)))) ((rfl : _ = _).trans (cT h9)) rfl (za (zb (.bool (decide (0 ≤ f.gsn))) rfl ?_)))))))))
     by_cases h10 : 0 ≤ f.gsn
     ·
      refine zo 26 rfl (cT h10) (zg (k := 2) (fun _ => by kernel_rfl) rfl (zo 26 rfl (cT h10) (zj (v := (yi f.gsn)) Tryz.underlying3 rfl rfl hH4 (zh 0 rfl) (CellsAt.one rfl) (zo 26 rfl (cT h10) (zL (a := f.gsn) (b := 4611686018427387904) rfl rfl (za (zq (u := (.bool (decide (f.gsn < 4611686018427387904)))) ((rfl : _ = _).trans (cT h10)) rfl (za (zb (.bool (decide (f.gsn < 4611686018427387904))) rfl ?_)))))))))
      by_cases h11 : f.gsn < 4611686018427387904
      ·
       refine zo 31 rfl (cT h11) (zg (k := 3) (fun _ => by kernel_rfl) rfl (zo 31 rfl (cT h11) (zj (v := (S f.data)) Tryz.underlying9 rfl rfl hH4 (zh 0 rfl) (CellsAt.one rfl) (zo 31 rfl (cT h11) (z8 Tryz.underlying9 rfl (zo 31 rfl (cT h11) (o_leq (a := (f.data.length : Int)) (b := 200) rfl rfl (za (zq (u := (.bool (decide ((f.data.length : Int) ≤ 200)))) ((rfl : _ = _).trans (cT h11)) rfl (za (zc (.bool (decide ((f.data.length : Int) ≤ 200))) rfl (zf (ze (hK5 _ _ (wp_ret (zr Tryz.results183  (v := (.bool (decide ((f.data.length : Int) ≤ 200)))) rfl ?_))))))))))))))))
       have hH12 := (hH4.front 1 rfl).first 1 rfl
       exact ⟨congrArg (fun b => Ending.returned (.bool b)) (decide_eq_decide.2 (by omega)), hH12⟩
      ·
       refine zi (b' := false) 31 rfl (cF h11) rfl (zi (b' := false) 31 rfl (cF h11) rfl (zi (b' := false) 31 rfl (cF h11) rfl (zi (b' := false) 31 rfl (cF h11) rfl (za (zm (u := (.bool false)) ((rfl : _ = _).trans (cF h11)) rfl (za (zc (.bool false) rfl (zf (ze (hK5 _ _ (wp_ret (zr Tryz.results183  (v := (.bool false)) rfl ?_))))))))))))
       have hH13 := (hH4.front 1 rfl).first 1 rfl
       exact ⟨congrArg (fun b => Ending.returned (.bool b)) ((decide_eq_false (by omega)).symm), hH13⟩
     ·
      refine zi (b' := false) 26 rfl (cF h10) rfl (zi (b' := false) 26 rfl (cF h10) rfl (zi (b' := false) 26 rfl (cF h10) rfl (za (zm (u := (.bool false)) ((rfl : _ = _).trans (cF h10)) rfl (za (zb (.bool false) rfl (zi (b' := false) 31 rfl rfl rfl (zi (b' := false) 31 rfl rfl rfl (zi (b' := false) 31 rfl rfl rfl (zi (b' := false) 31 rfl rfl rfl (za (zm (u := (.bool false)) rfl rfl (za (zc (.bool false) rfl (zf (ze (hK5 _ _ (wp_ret (zr Tryz.results183  (v := (.bool false)) rfl ?_)))))))))))))))))))
      have hH14 := (hH4.front 1 rfl).first 1 rfl
      exact ⟨congrArg (fun b => Ending.returned (.bool b)) ((decide_eq_false (by omega)).symm), hH14⟩
    ·
     refine zi (b' := false) 21 rfl (cF h9) rfl (zi (b' := false) 21 rfl (cF h9) rfl (zi (b' := false) 21 rfl (cF h9) rfl (za (zm (u := (.bool false)) ((rfl : _ = _).trans (cF h9)) rfl (za (zb (.bool false) rfl (zi (b' := false) 26 rfl rfl rfl (zi (b' := false) 26 rfl rfl rfl (zi (b' := false) 26 rfl rfl rfl (za (zm (u := (.bool false)) rfl rfl (za (zb (.bool false) rfl (zi (b' := false) 31 rfl rfl rfl (zi (b' := false) 31 rfl rfl rfl (zi (b' := false) 31 rfl rfl rfl (zi (b' := false) 31 rfl rfl rfl (za (zm (u := (.bool false)) rfl rfl ?_)))))))))))))))))))
     refine za (zc (.bool false) rfl (zf (ze (hK5 _ _ (wp_ret (zr Tryz.results183  (v := (.bool false)) rfl ?_))))))
     have hH15 := (hH4.front 1 rfl).first 1 rfl
     exact ⟨congrArg (fun b => Ending.returned (.bool b)) ((decide_eq_false (by omega)).symm), hH15⟩
   ·
    refine zi (b' := false) 16 rfl (cF h8) rfl (zi (b' := false) 16 rfl (cF h8) rfl (zi (b' := false) 16 rfl (cF h8) rfl (za (zm (u := (.bool false)) ((rfl : _ = _).trans (cF h8)) rfl (za (zb (.bool false) rfl (zi (b' := false) 21 rfl rfl rfl (zi (b' := false) 21 rfl rfl rfl (zi (b' := false) 21 rfl rfl rfl (za (zm (u := (.bool false)) rfl rfl (za (zb (.bool false) rfl (zi (b' := false) 26 rfl rfl rfl (zi (b' := false) 26 rfl rfl rfl (zi (b' := false) 26 rfl rfl rfl (za (zm (u := (.bool false)) rfl rfl (za (zb (.bool false) rfl ?_))))))))))))))))))))
    refine zi (b' := false) 31 rfl rfl rfl (zi (b' := false) 31 rfl rfl rfl (zi (b' := false) 31 rfl rfl rfl (zi (b' := false) 31 rfl rfl rfl (za (zm (u := (.bool false)) rfl rfl (za (zc (.bool false) rfl (zf (ze (hK5 _ _ (wp_ret (zr Tryz.results183  (v := (.bool false)) rfl ?_))))))))))))
    have hH16 := (hH4.front 1 rfl).first 1 rfl
    exact ⟨congrArg (fun b => Ending.returned (.bool b)) ((decide_eq_false (by omega)).symm), hH16⟩
  ·
   refine zi (b' := false) 11 rfl (cF h7) rfl (zi (b' := false) 11 rfl (cF h7) rfl (zi (b' := false) 11 rfl (cF h7) rfl (za (zm (u := (.bool false)) ((rfl : _ = _).trans (cF h7)) rfl (za (zb (.bool false) rfl (zi (b' := false) 16 rfl rfl rfl (zi (b' := false) 16 rfl rfl rfl (zi (b' := false) 16 rfl rfl rfl (za (zm (u := (.bool false)) rfl rfl (za (zb (.bool false) rfl (zi (b' := false) 21 rfl rfl rfl (zi (b' := false) 21 rfl rfl rfl (zi (b' := false) 21 rfl rfl rfl (za (zm (u := (.bool false)) rfl rfl (za (zb (.bool false) rfl ?_))))))))))))))))))))
   refine zi (b' := false) 26 rfl rfl rfl (zi (b' := false) 26 rfl rfl rfl (zi (b' := false) 26 rfl rfl rfl (za (zm (u := (.bool false)) rfl rfl (za (zb (.bool false) rfl (zi (b' := false) 31 rfl rfl rfl (zi (b' := false) 31 rfl rfl rfl (zi (b' := false) 31 rfl rfl rfl (zi (b' := false) 31 rfl rfl rfl (za (zm (u := (.bool false)) rfl rfl (za (zc (.bool false) rfl (zf (ze (hK5 _ _ (wp_ret (zr Tryz.results183  (v := (.bool false)) rfl ?_)))))))))))))))))))
   have hH17 := (hH4.front 1 rfl).first 1 rfl
   exact ⟨congrArg (fun b => Ending.returned (.bool b)) ((decide_eq_false (by omega)).symm), hH17⟩
 ·
  refine zi (b' := false) 6 rfl (cF h6) rfl (zi (b' := false) 6 rfl (cF h6) rfl (zi (b' := false) 6 rfl (cF h6) rfl (za (zm (u := (.bool false)) ((rfl : _ = _).trans (cF h6)) rfl (za (zb (.bool false) rfl (zi (b' := false) 11 rfl rfl rfl (zi (b' := false) 11 rfl rfl rfl (zi (b' := false) 11 rfl rfl rfl (za (zm (u := (.bool false)) rfl rfl (za (zb (.bool false) rfl (zi (b' := false) 16 rfl rfl rfl (zi (b' := false) 16 rfl rfl rfl (zi (b' := false) 16 rfl rfl rfl (za (zm (u := (.bool false)) rfl rfl (za (zb (.bool false) rfl ?_))))))))))))))))))))
  refine zi (b' := false) 21 rfl rfl rfl (zi (b' := false) 21 rfl rfl rfl (zi (b' := false) 21 rfl rfl rfl (za (zm (u := (.bool false)) rfl rfl (za (zb (.bool false) rfl (zi (b' := false) 26 rfl rfl rfl (zi (b' := false) 26 rfl rfl rfl (zi (b' := false) 26 rfl rfl rfl (za (zm (u := (.bool false)) rfl rfl (za (zb (.bool false) rfl (zi (b' := false) 31 rfl rfl rfl (zi (b' := false) 31 rfl rfl rfl (zi (b' := false) 31 rfl rfl rfl (zi (b' := false) 31 rfl rfl rfl (za (zm (u := (.bool false)) rfl rfl ?_)))))))))))))))))))
  refine za (zc (.bool false) rfl (zf (ze (hK5 _ _ (wp_ret (zr Tryz.results183  (v := (.bool false)) rfl ?_))))))
  have hH18 := (hH4.front 1 rfl).first 1 rfl
  exact ⟨congrArg (fun b => Ending.returned (.bool b)) ((decide_eq_false (by omega)).symm), hH18⟩
theorem refmake_c {E w : World} {R : List Hp} (hH : Has E w [R]) (f : Fr) (hfl : f.data.length ≤ 9223372036854775807) (hr : rightS f = true) :
  Calls Tryz.prog 184 #[(.agg #[(yi f.ep), (yi f.pl), (yi f.gsn), (S f.data)])] w fun e w' => e = .returned (S (makeS f)) ∧ Has E w' [R] := by
 obtain ⟨hr1, hr2, hr3, hr4, hr5, hr6, hr7⟩ := rightS_of hr
 refine zs (args := [(.agg #[(yi f.ep), (yi f.pl), (yi f.gsn), (S f.data)])]) Tryz.func184 rfl Tryz.ntmps184 (by simp) (yq fun K1 hK1 => (zd (za (o_box (cs := #[(yi f.ep), (yi f.pl), (yi f.gsn), (S f.data)]) rfl rfl hH fun b2 w3 hH4 => (za (zc (S ([] : List UInt8)) rfl (zf (ze (hK1 _ _ (yq fun K5 hK5 => (Rest.region mixed (by kernel_rfl) ?_)))))))))))
 have hH6 : Has E { w3 with drawn := w3.drawn + 1 } [(yo b2 #[(yi f.ep), (yi f.pl), (yi f.gsn), (S f.data)] 44), R] := Has0.drew hH4 _
 refine Rest.phaseA (fun w_ => Has E w_ [(yo b2 #[(yi f.ep), (yi f.pl), (yi f.gsn), (S f.data)] 44)]) 0 18 18 rfl (by decide) (by kernel_rfl) (zn 0 rfl (by kernel_rfl) (fun w_ h_ => zg (k := 3) (fun _ => by kernel_rfl) rfl ⟨rfl, rfl⟩) (zn 1 rfl (by kernel_rfl) (fun w_ h_ => zj (v := (S f.data)) Tryz.underlying9 rfl rfl h_ (zh 0 rfl) (CellsAt.one rfl) ⟨rfl, rfl⟩) (zn 2 rfl (by kernel_rfl) (fun w_ h_ => z8 Tryz.underlying9 rfl ⟨rfl, rfl⟩) (zn 4 rfl (by kernel_rfl) (fun w_ h_ => zg (k := 0) (fun _ => by kernel_rfl) rfl ⟨rfl, rfl⟩) (zn 5 rfl (by kernel_rfl) (fun w_ h_ => zj (v := (yi f.ep)) Tryz.underlying3 rfl rfl h_ (zh 0 rfl) (CellsAt.one rfl) ⟨rfl, rfl⟩) (zn 8 rfl (by kernel_rfl) (fun w_ h_ => zg (k := 1) (fun _ => by kernel_rfl) rfl ⟨rfl, rfl⟩) (zn 9 rfl (by kernel_rfl) (fun w_ h_ => zj (v := (yi f.pl)) Tryz.underlying3 rfl rfl h_ (zh 0 rfl) (CellsAt.one rfl) ⟨rfl, rfl⟩) (zn 12 rfl (by kernel_rfl) (fun w_ h_ => zg (k := 2) (fun _ => by kernel_rfl) rfl ⟨rfl, rfl⟩) (zn 13 rfl (by kernel_rfl) (fun w_ h_ => zj (v := (yi f.gsn)) Tryz.underlying3 rfl rfl h_ (zh 0 rfl) (CellsAt.one rfl) ⟨rfl, rfl⟩) (zn 16 rfl (by kernel_rfl) (fun w_ h_ => zg (k := 3) (fun _ => by kernel_rfl) rfl ⟨rfl, rfl⟩) (zn 17 rfl (by kernel_rfl) (fun w_ h_ => zj (v := (S f.data)) Tryz.underlying9 rfl rfl h_ (zh 0 rfl) (CellsAt.one rfl) ⟨rfl, rfl⟩) ?_)))))))))))
 have hH7 := hH6.first 1 rfl
 refine a_w 3 rfl (by kernel_rfl) hH7 (zk (vs := #[(yi 1), (yi (f.data.length : Int))]) ca266 rfl (zF rfl rfl) (rlaid_c hH6.all 1 (by decide) (f.data.length : Int) (by omega) (fits_head hr).1) ?_)
 rintro _ w10 ⟨rfl, hX8⟩
 refine ⟨_, rfl, ?_⟩
 have hH9 := hX8.of_all
 have hH11 := hH9.first 1 rfl
 refine a_w 6 rfl (by kernel_rfl) hH11 (zk (vs := #[(yi 4), (yi f.ep)]) ca266 rfl (zF rfl rfl) (rlaid_c hH9.all 4 (by decide) f.ep (by omega) (fits_head hr).2.1) ?_)
 rintro _ w14 ⟨rfl, hX12⟩
 refine ⟨_, rfl, ?_⟩
 have hH13 := hX12.of_all
 refine zn 7 rfl (by kernel_rfl) (fun w_ h_ => o_sadd rfl rfl (by simp only [List.length_append, zA, ye]; omega) ⟨rfl, rfl⟩) ?_
 have hH15 := hH13.first 1 rfl
 refine a_w 10 rfl (by kernel_rfl) hH15 (zk (vs := #[(yi 8), (yi f.pl)]) ca266 rfl (zF rfl rfl) (rlaid_c hH13.all 8 (by decide) f.pl (by omega) (fits_head hr).2.2.1) ?_)
 rintro _ w18 ⟨rfl, hX16⟩
 refine ⟨_, rfl, ?_⟩
 have hH17 := hX16.of_all
 refine zn 11 rfl (by kernel_rfl) (fun w_ h_ => o_sadd rfl rfl (by simp only [List.length_append, zA, ye]; omega) ⟨rfl, rfl⟩) ?_
 have hH19 := hH17.first 1 rfl
 refine a_w 14 rfl (by kernel_rfl) hH19 (zk (vs := #[(yi 8), (yi f.gsn)]) ca266 rfl (zF rfl rfl) (rlaid_c hH17.all 8 (by decide) f.gsn (by omega) (fits_head hr).2.2.2) ?_)
 rintro _ w22 ⟨rfl, hX20⟩
 refine ⟨_, rfl, ?_⟩
 have hH21 := hX20.of_all
 refine zn 15 rfl (by kernel_rfl) (fun w_ h_ => o_sadd rfl rfl (by simp only [List.length_append, zA, ye]; omega) ⟨rfl, rfl⟩) ?_
 have hH23 := hH21.first 1 rfl
 refine zM (by kernel_rfl) hH23 (zO 18 rfl (by kernel_rfl) (o_sadd rfl rfl (by simp only [List.length_append, zA, ye]; omega) (zO 19 rfl (by kernel_rfl) (zc (S (((((beFrom (f.data.length : Int) 1) ++ (beFrom f.ep 4)) ++ (beFrom f.pl 8)) ++ (beFrom f.gsn 8)) ++ f.data)) rfl (Rest.done (by kernel_rfl) (ze (hK5 _ _ (yq fun K24 hK24 => (zd (za (zb (S (((((beFrom (f.data.length : Int) 1) ++ (beFrom f.ep 4)) ++ (beFrom f.pl 8)) ++ (beFrom f.gsn 8)) ++ f.data)) rfl (za (zb (S (((((beFrom (f.data.length : Int) 1) ++ (beFrom f.ep 4)) ++ (beFrom f.pl 8)) ++ (beFrom f.gsn 8)) ++ f.data)) rfl (za (zk (vs := #[(S (((((beFrom (f.data.length : Int) 1) ++ (beFrom f.ep 4)) ++ (beFrom f.pl 8)) ++ (beFrom f.gsn 8)) ++ f.data))]) ca267 rfl (zI rfl) (reflaid_c hH21.all (((((beFrom (f.data.length : Int) 1) ++ (beFrom f.ep 4)) ++ (beFrom f.pl 8)) ++ (beFrom f.gsn 8)) ++ f.data) (by simp only [List.length_append, zA]; omega)) ?_)))))))))))))))
 rintro _ w27 ⟨rfl, hX25⟩
 refine ⟨_, rfl, ?_⟩
 have hH26 := hX25.of_all
 refine za (o_sadd rfl rfl (by simp only [List.length_append, zA, ye]; omega) (za (zc (S ((((((beFrom (f.data.length : Int) 1) ++ (beFrom f.ep 4)) ++ (beFrom f.pl 8)) ++ (beFrom f.gsn 8)) ++ f.data) ++ (laidS (crcS (((((beFrom (f.data.length : Int) 1) ++ (beFrom f.ep 4)) ++ (beFrom f.pl 8)) ++ (beFrom f.gsn 8)) ++ f.data))))) rfl (zf (ze (hK24 _ _ (wp_ret (zr Tryz.results184  (v := (S ((((((beFrom (f.data.length : Int) 1) ++ (beFrom f.ep 4)) ++ (beFrom f.pl 8)) ++ (beFrom f.gsn 8)) ++ f.data) ++ (laidS (crcS (((((beFrom (f.data.length : Int) 1) ++ (beFrom f.ep 4)) ++ (beFrom f.pl 8)) ++ (beFrom f.gsn 8)) ++ f.data)))))) rfl ?_))))))))
 have hH28 := (hH26.front 1 rfl).first 1 rfl
 exact ⟨by rw [makeS_yes hr, sealS]; simp [headS], hH28⟩
theorem fref_c {E w : World} {R : List Hp} (hH : Has E w [R]) (s : List UInt8) (hsl : s.length ≤ 9000000000000000000) :
  Calls Tryz.prog 94 #[(S s)] w fun e w' => e = .returned (.tuple #[(.agg #[(yi (oF s).ep), (yi (oF s).pl), (yi (oF s).gsn), (S (oF s).data)]), .bool (opensB s)]) ∧ Has E w' [R] := by
 refine zs (args := [(S s)]) Tryz.func94 rfl Tryz.ntmps94 (by simp) (yq fun K1 hK1 => (zd (za (zU (cs := #[(yi 0), (yi 0), (yi 0), (S ([] : List UInt8))]) ti44 rfl hH fun b2 w3 hH4 => (za (zc (.bool false) rfl (zf (ze (hK1 _ _ (yq fun K5 hK5 => (yq fun K6 hK6 => (zd (za (zb (S s) rfl (za (z8 Tryz.underlying9 rfl (za (zL (a := (s.length : Int)) (b := 25) rfl rfl (za (zb (.bool (decide ((s.length : Int) < 25))) rfl ?_))))))))))))))))))))
 by_cases h7 : (s.length : Int) < 25
 ·
  refine zi (b' := true) 14 rfl (cT h7) rfl (zi (b' := true) 14 rfl (cT h7) rfl (zi (b' := true) 14 rfl (cT h7) rfl (zi (b' := true) 14 rfl (cT h7) rfl (zi (b' := true) 14 rfl (cT h7) rfl (zi (b' := true) 14 rfl (cT h7) rfl (zi (b' := true) 14 rfl (cT h7) rfl (za (zq (u := (.bool true)) ((rfl : _ = _).trans (cT h7)) rfl (zf (ze (hK6 _ _ (zP rfl rfl (yq fun K8 hK8 => (zd (za (zJ (v := (.agg #[(yi 0), (yi 0), (yi 0), (S ([] : List UInt8))])) (fun _ => by kernel_rfl) (zB (zv (vs := [(yi 0), (yi 0), (yi 0), (S ([] : List UInt8))]) (c' := #[(yi 0), (yi 0), (yi 0), (S ([] : List UInt8))]) ti44 rfl rfl rfl rfl (by intro u hu; simp only [List.mem_cons, List.not_mem_nil, or_false] at hu; rcases hu with rfl | rfl | rfl | rfl <;> first | rfl) (by simp) (by kernel_rfl) (hH4.front 0 rfl) fun w9 hH10 => ?_))))))))))))))))))
  refine za (zc (.bool false) rfl (zf (ze (hK8 _ _ (wp_ret (zx (zR Tryz.results94 rfl (zu (cs := [(yi 0), (yi 0), (yi 0), (S ([] : List UInt8))]) Tryz.underlying44 rfl ti44 hH10 (zh 0 rfl) (CellsAt.one rfl)) (x := (.bool false)) rfl ?_)))))))
  have hH11 := (hH10.front 1 rfl).first 1 rfl
  have ho : opensB s = false := opens_short (by omega)
  exact ⟨by unfold oF; rw [ho]; rfl, hH11⟩
 ·
  refine zo 14 rfl (cF h7) (zb (S s) rfl (zo 14 rfl (cF h7) (z8 Tryz.underlying9 rfl (zo 14 rfl (cF h7) (zb (S s) rfl ?_)))))
  obtain ⟨c12, hx13⟩ : ∃ x_, s[((0 : Int)).toNat]? = some x_ := zN (by omega)
  have c12_lt := c12.toNat_lt
  refine zo 14 rfl (cF h7) (o_sidx Tryz.underlying9 rfl rfl (by omega) hx13 (zo 14 rfl (cF h7) (o_conv Tryz.underlying5 Tryz.underlying3 rfl (w_u8 _) (zo 14 rfl (cF h7) (zD (a := 25) (b := (c12.toNat : Int)) rfl rfl (w64 (by omega) (by omega)) (zo 14 rfl (cF h7) (zL (a := (s.length : Int)) (b := 25 + (c12.toNat : Int)) rfl rfl (za (zm (u := (.bool (decide ((s.length : Int) < 25 + (c12.toNat : Int))))) ((rfl : _ = _).trans (cF h7)) rfl (zf (ze (hK6 _ _ (zt rfl (fun h14 => ?_) (fun h14 => ?_))))))))))))))
  ·
   refine yq fun K15 hK15 => (zd (za (zJ (v := (.agg #[(yi 0), (yi 0), (yi 0), (S ([] : List UInt8))])) (fun _ => by kernel_rfl) (zB (zv (vs := [(yi 0), (yi 0), (yi 0), (S ([] : List UInt8))]) (c' := #[(yi 0), (yi 0), (yi 0), (S ([] : List UInt8))]) ti44 rfl rfl rfl rfl (by intro u hu; simp only [List.mem_cons, List.not_mem_nil, or_false] at hu; rcases hu with rfl | rfl | rfl | rfl <;> first | rfl) (by simp) (by kernel_rfl) (hH4.front 0 rfl) fun w16 hH17 => (za (zc (.bool false) rfl (zf (ze (hK15 _ _ (wp_ret (zx (zR Tryz.results94 rfl (zu (cs := [(yi 0), (yi 0), (yi 0), (S ([] : List UInt8))]) Tryz.underlying44 rfl ti44 hH17 (zh 0 rfl) (CellsAt.one rfl)) (x := (.bool false)) rfl ?_)))))))))))))
   have hH18 := (hH17.front 1 rfl).first 1 rfl
   have ho : opensB s = false := opens_short2 hx13 (by omega)
   exact ⟨by unfold oF; rw [ho]; rfl, hH18⟩
  ·
   refine wp_skip (ze (hK5 _ _ (yq fun K19 hK19 => (zd (za (zb (S s) rfl (za (zb (S s) rfl (za (o_sidx Tryz.underlying9 rfl rfl (by omega) hx13 (za (o_conv Tryz.underlying5 Tryz.underlying3 rfl (w_u8 _) (za (zD (a := 21) (b := (c12.toNat : Int)) rfl rfl (w64 (by omega) (by omega)) (za (o_ssl Tryz.underlying9 rfl rfl rfl (by omega) (by omega) (by omega) ?_))))))))))))))))
   have hdl : ((s.take (21 + (c12.toNat : Int)).toNat).drop 21).length = c12.toNat := by rw [List.length_drop, List.length_take]; omega
   refine za (zJ (v := (.agg #[(yi 0), (yi 0), (yi 0), (S ((s.take (21 + (c12.toNat : Int)).toNat).drop 21))])) (fun _ => by kernel_rfl) (za (zU (cs := #[(yi 0), (yi 0), (yi 0), (S ([] : List UInt8))]) ti44 rfl hH4 fun b20 w21 hH22 => (zB (zv (vs := [(yi 0), (yi 0), (yi 0), (S ((s.take (21 + (c12.toNat : Int)).toNat).drop 21))]) (c' := #[(yi 0), (yi 0), (yi 0), (S ((s.take (21 + (c12.toNat : Int)).toNat).drop 21))]) ti44 rfl rfl rfl rfl (by intro u hu; simp only [List.mem_cons, List.not_mem_nil, or_false] at hu; rcases hu with rfl | rfl | rfl | rfl <;> first | rfl) (by simp) (by kernel_rfl) (hH22.front 0 rfl) fun w23 hH24 => (zf (ze (hK19 _ _ (yq fun K25 hK25 => (zd (za (zb (S s) rfl (za (o_ssl_l Tryz.underlying9 rfl rfl (by omega) (by omega) (za (zk (vs := #[(S (s.drop 1)), (yi 4)]) ca182 rfl (zF rfl rfl) (refTake_c hH24.all 4 (s.drop 1) (by simp only [List.length_drop]; omega)) ?_))))))))))))))))
   rintro _ w28 ⟨rfl, hX26⟩
   refine ⟨_, rfl, ?_⟩
   have hH27 := hX26.of_all
   refine za (zb (.tuple #[(yi ((takeS (s.drop 1) 4).1)), (.bool ((takeS (s.drop 1) 4).2.2))]) rfl (za (zp (v := (yi ((takeS (s.drop 1) 4).1))) rfl rfl (za (zp (v := (.bool ((takeS (s.drop 1) 4).2.2))) rfl rfl (za (zc (yi ((takeS (s.drop 1) 4).1)) rfl (za (zc (.bool ((takeS (s.drop 1) 4).2.2)) rfl (zf (ze (hK25 _ _ (yq fun K29 hK29 => (zd (za (zb (S s) rfl (za (o_ssl_l Tryz.underlying9 rfl rfl (by omega) (by omega) (za (zk (vs := #[(S (s.drop 5)), (yi 8)]) ca182 rfl (zF rfl rfl) (refTake_c hH27.all 8 (s.drop 5) (by simp only [List.length_drop]; omega)) ?_))))))))))))))))))))
   rintro _ w32 ⟨rfl, hX30⟩
   refine ⟨_, rfl, ?_⟩
   have hH31 := hX30.of_all
   refine za (zb (.tuple #[(yi ((takeS (s.drop 5) 8).1)), (.bool ((takeS (s.drop 5) 8).2.2))]) rfl (za (zp (v := (yi ((takeS (s.drop 5) 8).1))) rfl rfl (za (zp (v := (.bool ((takeS (s.drop 5) 8).2.2))) rfl rfl (za (zc (yi ((takeS (s.drop 5) 8).1)) rfl (za (zc (.bool ((takeS (s.drop 5) 8).2.2)) rfl (zf (ze (hK29 _ _ (yq fun K33 hK33 => (zd (za (zb (S s) rfl (za (o_ssl_l Tryz.underlying9 rfl rfl (by omega) (by omega) (za (zk (vs := #[(S (s.drop 13)), (yi 8)]) ca182 rfl (zF rfl rfl) (refTake_c hH31.all 8 (s.drop 13) (by simp only [List.length_drop]; omega)) ?_))))))))))))))))))))
   rintro _ w36 ⟨rfl, hX34⟩
   refine ⟨_, rfl, ?_⟩
   have hH35 := hX34.of_all
   refine za (zb (.tuple #[(yi ((takeS (s.drop 13) 8).1)), (.bool ((takeS (s.drop 13) 8).2.2))]) rfl (za (zp (v := (yi ((takeS (s.drop 13) 8).1))) rfl rfl (za (zp (v := (.bool ((takeS (s.drop 13) 8).2.2))) rfl rfl (za (zc (yi ((takeS (s.drop 13) 8).1)) rfl (za (zc (.bool ((takeS (s.drop 13) 8).2.2)) rfl (zf (ze (hK33 _ _ (yq fun K37 hK37 => (zd (za (zb (yi ((takeS (s.drop 1) 4).1)) rfl (za (zg (k := 0) (fun _ => by kernel_rfl) rfl (zB (zH (c' := #[(yi ((takeS (s.drop 1) 4).1)), (yi 0), (yi 0), (S ((s.take (21 + (c12.toNat : Int)).toNat).drop 21))]) ti3 rfl rfl rfl (by simp) rfl (hH35.front 0 rfl) fun w38 hH39 => (zf (ze (hK37 _ _ (yq fun K40 hK40 => ?_))))))))))))))))))))))))
   refine zd (za (zb (yi ((takeS (s.drop 5) 8).1)) rfl (za (zg (k := 1) (fun _ => by kernel_rfl) rfl (zB (zH (c' := #[(yi ((takeS (s.drop 1) 4).1)), (yi ((takeS (s.drop 5) 8).1)), (yi 0), (S ((s.take (21 + (c12.toNat : Int)).toNat).drop 21))]) ti3 rfl rfl rfl (by simp) rfl (hH39.front 0 rfl) fun w41 hH42 => (zf (ze (hK40 _ _ (yq fun K43 hK43 => (zd (za (zb (yi ((takeS (s.drop 13) 8).1)) rfl (za (zg (k := 2) (fun _ => by kernel_rfl) rfl (zB (zH (c' := #[(yi ((takeS (s.drop 1) 4).1)), (yi ((takeS (s.drop 5) 8).1)), (yi ((takeS (s.drop 13) 8).1)), (S ((s.take (21 + (c12.toNat : Int)).toNat).drop 21))]) ti3 rfl rfl rfl (by simp) rfl (hH42.front 0 rfl) fun w44 hH45 => (zf (ze (hK43 _ _ (yq fun K46 hK46 => (yq fun K47 hK47 => ?_))))))))))))))))))))))
   refine Rest.region mixed (by kernel_rfl) ?_
   have hH48 : Has E { w44 with drawn := w44.drawn + 1 } [(yo b20 #[(yi ((takeS (s.drop 1) 4).1)), (yi ((takeS (s.drop 5) 8).1)), (yi ((takeS (s.drop 13) 8).1)), (S ((s.take (21 + (c12.toNat : Int)).toNat).drop 21))] 44), (yo b2 #[(yi 0), (yi 0), (yi 0), (S ([] : List UInt8))] 44), R] := Has0.drew hH45 _
   refine zO 0 rfl (by kernel_rfl) (zb (.bool ((takeS (s.drop 5) 8).2.2)) rfl (zO 1 rfl (by kernel_rfl) (o_not rfl (zO 2 rfl (by kernel_rfl) (zb (.bool (!((takeS (s.drop 5) 8).2.2))) rfl ?_)))))
   rcases Bool.eq_false_or_eq_true (!((takeS (s.drop 5) 8).2.2)) with h49 | h49
   ·
    refine r_off (b' := true) 3 rfl (by kernel_rfl) 57 rfl (congrArg Value.bool h49) rfl (r_off (b' := true) 4 rfl (by kernel_rfl) 57 rfl (congrArg Value.bool h49) rfl (zO 5 rfl (by kernel_rfl) (zq (u := (.bool true)) ((rfl : _ = _).trans (congrArg Value.bool h49)) rfl (zO 6 rfl (by kernel_rfl) (zb (.bool true) rfl (r_off (b' := true) 7 rfl (by kernel_rfl) 61 rfl rfl rfl (r_off (b' := true) 8 rfl (by kernel_rfl) 61 rfl rfl rfl (r_off (b' := true) 9 rfl (by kernel_rfl) 61 rfl rfl rfl (zO 10 rfl (by kernel_rfl) (zq (u := (.bool true)) rfl rfl (zO 11 rfl (by kernel_rfl) (zb (.bool true) rfl (Rest.phaseA (fun w_ => Has E w_ []) 12 20 8 rfl (by decide) (by kernel_rfl) (yd (b' := true) 12 rfl (by kernel_rfl) 66 rfl rfl rfl (yd (b' := true) 14 rfl (by kernel_rfl) 66 rfl rfl rfl (yd (b' := true) 15 rfl (by kernel_rfl) 66 rfl rfl rfl (yd (b' := true) 16 rfl (by kernel_rfl) 66 rfl rfl rfl (yd (b' := true) 17 rfl (by kernel_rfl) 66 rfl rfl rfl ?_))))))))))))))))))
    refine yd (b' := true) 18 rfl (by kernel_rfl) 66 rfl rfl rfl (yd (b' := true) 19 rfl (by kernel_rfl) 66 rfl rfl rfl (yd (b' := true) 13 rfl (by kernel_rfl) 66 rfl rfl rfl ?_))
    have hH50 := hH48.first 0 rfl
    refine zM (by kernel_rfl) hH50 (r_off (b' := true) 20 rfl (by kernel_rfl) 66 rfl rfl rfl (zO 21 rfl (by kernel_rfl) (zq (u := (.bool true)) rfl rfl (Rest.done (by kernel_rfl) (ze (hK47 _ _ (zP rfl rfl (yq fun K51 hK51 => (zd (za (zJ (v := (.agg #[(yi 0), (yi 0), (yi 0), (S ([] : List UInt8))])) (fun _ => by kernel_rfl) (zB (zv (vs := [(yi 0), (yi 0), (yi 0), (S ([] : List UInt8))]) (c' := #[(yi 0), (yi 0), (yi 0), (S ([] : List UInt8))]) ti44 rfl rfl rfl rfl (by intro u hu; simp only [List.mem_cons, List.not_mem_nil, or_false] at hu; rcases hu with rfl | rfl | rfl | rfl <;> first | rfl) (by simp) (by kernel_rfl) (hH48.front 1 rfl) fun w52 hH53 => (za (zc (.bool false) rfl (zf (ze (hK51 _ _ (wp_ret (zx (zR Tryz.results94 rfl (zu (cs := [(yi 0), (yi 0), (yi 0), (S ([] : List UInt8))]) Tryz.underlying44 rfl ti44 hH53 (zh 0 rfl) (CellsAt.one rfl)) (x := (.bool false)) rfl ?_)))))))))))))))))))))
    have hH54 := (hH53.front 2 rfl).first 1 rfl
    have ho : opensB s = false := ref_no hx13 (by omega) (by omega) (.inl (not_t h49))
    exact ⟨by unfold oF; rw [ho]; rfl, hH54⟩
   ·
    refine r_on 3 rfl (by kernel_rfl) 57 rfl (congrArg Value.bool h49) (zb (.bool ((takeS (s.drop 13) 8).2.2)) rfl (r_on 4 rfl (by kernel_rfl) 57 rfl (congrArg Value.bool h49) (o_not rfl (zO 5 rfl (by kernel_rfl) (zm (u := (.bool (!((takeS (s.drop 13) 8).2.2)))) ((rfl : _ = _).trans (congrArg Value.bool h49)) rfl (zO 6 rfl (by kernel_rfl) (zb (.bool (!((takeS (s.drop 13) 8).2.2))) rfl ?_)))))))
    rcases Bool.eq_false_or_eq_true (!((takeS (s.drop 13) 8).2.2)) with h55 | h55
    ·
     refine r_off (b' := true) 7 rfl (by kernel_rfl) 61 rfl (congrArg Value.bool h55) rfl (r_off (b' := true) 8 rfl (by kernel_rfl) 61 rfl (congrArg Value.bool h55) rfl (r_off (b' := true) 9 rfl (by kernel_rfl) 61 rfl (congrArg Value.bool h55) rfl (zO 10 rfl (by kernel_rfl) (zq (u := (.bool true)) ((rfl : _ = _).trans (congrArg Value.bool h55)) rfl (zO 11 rfl (by kernel_rfl) (zb (.bool true) rfl (Rest.phaseA (fun w_ => Has E w_ []) 12 20 8 rfl (by decide) (by kernel_rfl) (yd (b' := true) 12 rfl (by kernel_rfl) 66 rfl rfl rfl (yd (b' := true) 14 rfl (by kernel_rfl) 66 rfl rfl rfl (yd (b' := true) 15 rfl (by kernel_rfl) 66 rfl rfl rfl (yd (b' := true) 16 rfl (by kernel_rfl) 66 rfl rfl rfl (yd (b' := true) 17 rfl (by kernel_rfl) 66 rfl rfl rfl (yd (b' := true) 18 rfl (by kernel_rfl) 66 rfl rfl rfl (yd (b' := true) 19 rfl (by kernel_rfl) 66 rfl rfl rfl (yd (b' := true) 13 rfl (by kernel_rfl) 66 rfl rfl rfl ?_)))))))))))))))
     have hH56 := hH48.first 0 rfl
     refine zM (by kernel_rfl) hH56 (r_off (b' := true) 20 rfl (by kernel_rfl) 66 rfl rfl rfl (zO 21 rfl (by kernel_rfl) (zq (u := (.bool true)) rfl rfl (Rest.done (by kernel_rfl) (ze (hK47 _ _ (zP rfl rfl (yq fun K57 hK57 => (zd (za (zJ (v := (.agg #[(yi 0), (yi 0), (yi 0), (S ([] : List UInt8))])) (fun _ => by kernel_rfl) (zB (zv (vs := [(yi 0), (yi 0), (yi 0), (S ([] : List UInt8))]) (c' := #[(yi 0), (yi 0), (yi 0), (S ([] : List UInt8))]) ti44 rfl rfl rfl rfl (by intro u hu; simp only [List.mem_cons, List.not_mem_nil, or_false] at hu; rcases hu with rfl | rfl | rfl | rfl <;> first | rfl) (by simp) (by kernel_rfl) (hH48.front 1 rfl) fun w58 hH59 => (za (zc (.bool false) rfl (zf (ze (hK57 _ _ (wp_ret (zx (zR Tryz.results94 rfl (zu (cs := [(yi 0), (yi 0), (yi 0), (S ([] : List UInt8))]) Tryz.underlying44 rfl ti44 hH59 (zh 0 rfl) (CellsAt.one rfl)) (x := (.bool false)) rfl ?_)))))))))))))))))))))
     have hH60 := (hH59.front 2 rfl).first 1 rfl
     have ho : opensB s = false := ref_no hx13 (by omega) (by omega) (.inr (.inl (not_t h55)))
     exact ⟨by unfold oF; rw [ho]; rfl, hH60⟩
    ·
     refine r_on 7 rfl (by kernel_rfl) 61 rfl (congrArg Value.bool h55) (zG (cs := [(yi ((takeS (s.drop 1) 4).1)), (yi ((takeS (s.drop 5) 8).1)), (yi ((takeS (s.drop 13) 8).1)), (S ((s.take (21 + (c12.toNat : Int)).toNat).drop 21))]) Tryz.underlying44 rfl ti44 rfl hH48 (zh 0 rfl) (CellsAt.one rfl) (r_on 8 rfl (by kernel_rfl) 61 rfl (congrArg Value.bool h55) (zk (vs := #[(.agg #[(yi ((takeS (s.drop 1) 4).1)), (yi ((takeS (s.drop 5) 8).1)), (yi ((takeS (s.drop 13) 8).1)), (S ((s.take (21 + (c12.toNat : Int)).toNat).drop 21))])]) ca183 rfl (zI rfl) (refright_c hH48.all (Fr.mk ((takeS (s.drop 1) 4).1) ((takeS (s.drop 5) 8).1) ((takeS (s.drop 13) 8).1) ((s.take (21 + (c12.toNat : Int)).toNat).drop 21)) (by simp only [List.length_drop, List.length_take]; omega)) ?_)))
     rintro _ w63 ⟨rfl, hX61⟩
     refine ⟨_, rfl, ?_⟩
     have hH62 := hX61.of_all
     refine r_on 9 rfl (by kernel_rfl) 61 rfl (congrArg Value.bool h55) (o_not rfl (zO 10 rfl (by kernel_rfl) (zm (u := (.bool (!(rightS (Fr.mk ((takeS (s.drop 1) 4).1) ((takeS (s.drop 5) 8).1) ((takeS (s.drop 13) 8).1) ((s.take (21 + (c12.toNat : Int)).toNat).drop 21)))))) ((rfl : _ = _).trans (congrArg Value.bool h55)) rfl (zO 11 rfl (by kernel_rfl) (zb (.bool (!(rightS (Fr.mk ((takeS (s.drop 1) 4).1) ((takeS (s.drop 5) 8).1) ((takeS (s.drop 13) 8).1) ((s.take (21 + (c12.toNat : Int)).toNat).drop 21))))) rfl (Rest.phaseA (fun w_ => Has E w_ [(yo b20 #[(yi ((takeS (s.drop 1) 4).1)), (yi ((takeS (s.drop 5) 8).1)), (yi ((takeS (s.drop 13) 8).1)), (S ((s.take (21 + (c12.toNat : Int)).toNat).drop 21))] 44)]) 12 20 8 rfl (by decide) (by kernel_rfl) ?_))))))
     rcases Bool.eq_false_or_eq_true (!(rightS (Fr.mk ((takeS (s.drop 1) 4).1) ((takeS (s.drop 5) 8).1) ((takeS (s.drop 13) 8).1) ((s.take (21 + (c12.toNat : Int)).toNat).drop 21)))) with h64 | h64
     ·
      refine yd (b' := true) 12 rfl (by kernel_rfl) 66 rfl (congrArg Value.bool h64) rfl (yd (b' := true) 14 rfl (by kernel_rfl) 66 rfl (congrArg Value.bool h64) rfl (yd (b' := true) 15 rfl (by kernel_rfl) 66 rfl (congrArg Value.bool h64) rfl (yd (b' := true) 16 rfl (by kernel_rfl) 66 rfl (congrArg Value.bool h64) rfl (yd (b' := true) 17 rfl (by kernel_rfl) 66 rfl (congrArg Value.bool h64) rfl (yd (b' := true) 18 rfl (by kernel_rfl) 66 rfl (congrArg Value.bool h64) rfl (yd (b' := true) 19 rfl (by kernel_rfl) 66 rfl (congrArg Value.bool h64) rfl (yd (b' := true) 13 rfl (by kernel_rfl) 66 rfl (congrArg Value.bool h64) rfl ?_)))))))
      have hH65 := hH62.first 1 rfl
      refine zM (by kernel_rfl) hH65 (r_off (b' := true) 20 rfl (by kernel_rfl) 66 rfl (congrArg Value.bool h64) rfl (zO 21 rfl (by kernel_rfl) (zq (u := (.bool true)) ((rfl : _ = _).trans (congrArg Value.bool h64)) rfl (Rest.done (by kernel_rfl) (ze (hK47 _ _ (zP rfl rfl (yq fun K66 hK66 => (zd (za (zJ (v := (.agg #[(yi 0), (yi 0), (yi 0), (S ([] : List UInt8))])) (fun _ => by kernel_rfl) (zB (zv (vs := [(yi 0), (yi 0), (yi 0), (S ([] : List UInt8))]) (c' := #[(yi 0), (yi 0), (yi 0), (S ([] : List UInt8))]) ti44 rfl rfl rfl rfl (by intro u hu; simp only [List.mem_cons, List.not_mem_nil, or_false] at hu; rcases hu with rfl | rfl | rfl | rfl <;> first | rfl) (by simp) (by kernel_rfl) (hH62.front 1 rfl) fun w67 hH68 => (za (zc (.bool false) rfl (zf (ze (hK66 _ _ (wp_ret (zx (zR Tryz.results94 rfl (zu (cs := [(yi 0), (yi 0), (yi 0), (S ([] : List UInt8))]) Tryz.underlying44 rfl ti44 hH68 (zh 0 rfl) (CellsAt.one rfl)) (x := (.bool false)) rfl ?_)))))))))))))))))))))
      have hH69 := (hH68.front 2 rfl).first 1 rfl
      have ho : opensB s = false := ref_no hx13 (by omega) (by omega) (.inr (.inr (.inl (not_t h64))))
      exact ⟨by unfold oF; rw [ho]; rfl, hH69⟩
     ·
      refine a_on 12 rfl (by kernel_rfl) 66 rfl (congrArg Value.bool h64) (fun w_ h_ => zG (cs := [(yi ((takeS (s.drop 1) 4).1)), (yi ((takeS (s.drop 5) 8).1)), (yi ((takeS (s.drop 13) 8).1)), (S ((s.take (21 + (c12.toNat : Int)).toNat).drop 21))]) Tryz.underlying44 rfl ti44 rfl h_ (zh 0 rfl) (CellsAt.one rfl) ⟨rfl, rfl⟩) (a_on 14 rfl (by kernel_rfl) 66 rfl (congrArg Value.bool h64) (fun w_ h_ => zb (S s) rfl ⟨rfl, rfl⟩) (a_on 15 rfl (by kernel_rfl) 66 rfl (congrArg Value.bool h64) (fun w_ h_ => zg (k := 3) (fun _ => by kernel_rfl) rfl ⟨rfl, rfl⟩) (a_on 16 rfl (by kernel_rfl) 66 rfl (congrArg Value.bool h64) (fun w_ h_ => zj (v := (S ((s.take (21 + (c12.toNat : Int)).toNat).drop 21))) Tryz.underlying9 rfl rfl h_ (zh 0 rfl) (CellsAt.one rfl) ⟨rfl, rfl⟩) (a_on 17 rfl (by kernel_rfl) 66 rfl (congrArg Value.bool h64) (fun w_ h_ => z8 Tryz.underlying9 rfl ⟨rfl, rfl⟩) (a_on 18 rfl (by kernel_rfl) 66 rfl (congrArg Value.bool h64) (fun w_ h_ => zD (a := 25) (b := (((s.take (21 + (c12.toNat : Int)).toNat).drop 21).length : Int)) rfl rfl (w64 (by omega) (by omega)) ⟨rfl, rfl⟩) (a_on 19 rfl (by kernel_rfl) 66 rfl (congrArg Value.bool h64) (fun w_ h_ => o_ssl_h Tryz.underlying9 rfl rfl (by omega) (by omega) ⟨rfl, rfl⟩) ?_))))))
      have hH70 := hH62.first 1 rfl
      refine a_won 13 rfl (by kernel_rfl) hH70 66 rfl (congrArg Value.bool h64) (zk (vs := #[(.agg #[(yi ((takeS (s.drop 1) 4).1)), (yi ((takeS (s.drop 5) 8).1)), (yi ((takeS (s.drop 13) 8).1)), (S ((s.take (21 + (c12.toNat : Int)).toNat).drop 21))])]) ca184 rfl (zI rfl) (refmake_c hH62.all (Fr.mk ((takeS (s.drop 1) 4).1) ((takeS (s.drop 5) 8).1) ((takeS (s.drop 13) 8).1) ((s.take (21 + (c12.toNat : Int)).toNat).drop 21)) (by simp only [List.length_drop, List.length_take]; omega) (not_f h64)) ?_)
      rintro _ w73 ⟨rfl, hX71⟩
      refine ⟨_, rfl, ?_⟩
      have hH72 := hX71.of_all
      have hH74 := hH72.first 1 rfl
      refine zM (by kernel_rfl) hH74 (r_on 20 rfl (by kernel_rfl) 66 rfl (congrArg Value.bool h64) (o_sneq (a := (makeS (Fr.mk ((takeS (s.drop 1) 4).1) ((takeS (s.drop 5) 8).1) ((takeS (s.drop 13) 8).1) ((s.take (21 + (c12.toNat : Int)).toNat).drop 21)))) (b := s.take (25 + (((s.take (21 + (c12.toNat : Int)).toNat).drop 21).length : Int)).toNat) rfl rfl (zO 21 rfl (by kernel_rfl) (zm (u := (.bool (decide ((makeS (Fr.mk ((takeS (s.drop 1) 4).1) ((takeS (s.drop 5) 8).1) ((takeS (s.drop 13) 8).1) ((s.take (21 + (c12.toNat : Int)).toNat).drop 21))) ≠ s.take (25 + (((s.take (21 + (c12.toNat : Int)).toNat).drop 21).length : Int)).toNat)))) ((rfl : _ = _).trans (congrArg Value.bool h64)) rfl (Rest.done (by kernel_rfl) (ze (hK47 _ _ (zt rfl (fun h75 => ?_) (fun h75 => ?_)))))))))
      ·
       refine yq fun K76 hK76 => (zd (za (zJ (v := (.agg #[(yi 0), (yi 0), (yi 0), (S ([] : List UInt8))])) (fun _ => by kernel_rfl) (zB (zv (vs := [(yi 0), (yi 0), (yi 0), (S ([] : List UInt8))]) (c' := #[(yi 0), (yi 0), (yi 0), (S ([] : List UInt8))]) ti44 rfl rfl rfl rfl (by intro u hu; simp only [List.mem_cons, List.not_mem_nil, or_false] at hu; rcases hu with rfl | rfl | rfl | rfl <;> first | rfl) (by simp) (by kernel_rfl) (hH72.front 1 rfl) fun w77 hH78 => (za (zc (.bool false) rfl (zf (ze (hK76 _ _ (wp_ret (zx (zR Tryz.results94 rfl (zu (cs := [(yi 0), (yi 0), (yi 0), (S ([] : List UInt8))]) Tryz.underlying44 rfl ti44 hH78 (zh 0 rfl) (CellsAt.one rfl)) (x := (.bool false)) rfl ?_)))))))))))))
       have hH79 := (hH78.front 2 rfl).first 1 rfl
       have ho : opensB s = false := ref_no hx13 (by omega) (by omega) (.inr (.inr (.inr h75)))
       exact ⟨by unfold oF; rw [ho]; rfl, hH79⟩
      ·
       refine wp_skip (ze (hK46 _ _ (yq fun K80 hK80 => (zd (za (zG (cs := [(yi ((takeS (s.drop 1) 4).1)), (yi ((takeS (s.drop 5) 8).1)), (yi ((takeS (s.drop 13) 8).1)), (S ((s.take (21 + (c12.toNat : Int)).toNat).drop 21))]) Tryz.underlying44 rfl ti44 rfl hH72 (zh 0 rfl) (CellsAt.one rfl) (zB (zv (vs := [(yi ((takeS (s.drop 1) 4).1)), (yi ((takeS (s.drop 5) 8).1)), (yi ((takeS (s.drop 13) 8).1)), (S ((s.take (21 + (c12.toNat : Int)).toNat).drop 21))]) (c' := #[(yi ((takeS (s.drop 1) 4).1)), (yi ((takeS (s.drop 5) 8).1)), (yi ((takeS (s.drop 13) 8).1)), (S ((s.take (21 + (c12.toNat : Int)).toNat).drop 21))]) ti44 rfl rfl rfl rfl (by intro u hu; simp only [List.mem_cons, List.not_mem_nil, or_false] at hu; rcases hu with rfl | rfl | rfl | rfl <;> first | rfl) (by simp) (by kernel_rfl) (hH72.front 1 rfl) fun w81 hH82 => (za (zc (.bool true) rfl (zf (ze (hK80 _ _ (wp_ret (zR Tryz.results94 rfl (zu (cs := [(yi ((takeS (s.drop 1) 4).1)), (yi ((takeS (s.drop 5) 8).1)), (yi ((takeS (s.drop 13) 8).1)), (S ((s.take (21 + (c12.toNat : Int)).toNat).drop 21))]) Tryz.underlying44 rfl ti44 hH82 (zh 0 rfl) (CellsAt.one rfl)) (x := (.bool true)) rfl ?_)))))))))))))))
       have hH83 := (hH82.front 2 rfl).first 1 rfl
       have ho : opensB s = true := ref_yes hx13 (by omega) (by omega) (not_f h49) (not_f h55) (not_f h64) (Classical.not_not.1 h75)
       have hq := (ref_opens hx13 (by omega) (by omega)).2 ho
       exact ⟨by unfold oF; rw [if_pos ho, ho, hq.1]; rfl, hH83⟩
theorem reffits_c {E w : World} {R : List Hp} (hH : Has E w [R]) (f : Fr) (hfl : f.data.length ≤ 9223372036854775807) (re rc pl ab : Int) :
  Calls Tryz.prog 95 #[(yi re), (yi rc), (.agg #[(yi f.ep), (yi f.pl), (yi f.gsn), (S f.data)]), (yi pl), (yi ab)] w fun e w' => e = .returned (.bool (fitsF re rc pl ab f)) ∧ Has E w' [R] := by
 refine zs (args := [(yi re), (yi rc), (.agg #[(yi f.ep), (yi f.pl), (yi f.gsn), (S f.data)]), (yi pl), (yi ab)]) Tryz.func95 rfl Tryz.ntmps95 (by simp) (yq fun K1 hK1 => (zd (za (o_box (cs := #[(yi f.ep), (yi f.pl), (yi f.gsn), (S f.data)]) rfl rfl hH fun b2 w3 hH4 => (za (zc (.bool false) rfl (zf (ze (hK1 _ _ (yq fun K5 hK5 => (yq fun K6 hK6 => (zd (za (zG (cs := [(yi f.ep), (yi f.pl), (yi f.gsn), (S f.data)]) Tryz.underlying44 rfl ti44 rfl hH4 (zh 0 rfl) (CellsAt.one rfl) (za (zk (vs := #[(.agg #[(yi f.ep), (yi f.pl), (yi f.gsn), (S f.data)])]) ca183 rfl (zI rfl) (refright_c hH4.all f (by omega)) ?_))))))))))))))))
 rintro _ w9 ⟨rfl, hX7⟩
 refine ⟨_, rfl, ?_⟩
 have hH8 := hX7.of_all
 refine za (o_not rfl (za (zb (.bool (!(rightS f))) rfl ?_)))
 rcases Bool.eq_false_or_eq_true (!(rightS f)) with h10 | h10
 ·
  refine zi (b' := true) 14 rfl (congrArg Value.bool h10) rfl (zi (b' := true) 14 rfl (congrArg Value.bool h10) rfl (zi (b' := true) 14 rfl (congrArg Value.bool h10) rfl (zi (b' := true) 14 rfl (congrArg Value.bool h10) rfl (za (zq (u := (.bool true)) ((rfl : _ = _).trans (congrArg Value.bool h10)) rfl (za (zb (.bool true) rfl (zi (b' := true) 20 rfl rfl rfl (zi (b' := true) 20 rfl rfl rfl (zi (b' := true) 20 rfl rfl rfl (zi (b' := true) 20 rfl rfl rfl (za (zq (u := (.bool true)) rfl rfl (za (zb (.bool true) rfl (zi (b' := true) 26 rfl rfl rfl (zi (b' := true) 26 rfl rfl rfl (zi (b' := true) 26 rfl rfl rfl ?_))))))))))))))))))
  refine zi (b' := true) 26 rfl rfl rfl (za (zq (u := (.bool true)) rfl rfl (zf (ze (hK6 _ _ (zP rfl rfl (yq fun K11 hK11 => (zd (za (zc (.bool false) rfl (zf (ze (hK11 _ _ (wp_ret (zx (zr Tryz.results95  (v := (.bool false)) rfl ?_))))))))))))))))
  have hH12 := (hH8.front 1 rfl).first 1 rfl
  exact ⟨by rw [fitsF, (not_t h10)]; rfl, hH12⟩
 ·
  refine zo 14 rfl (congrArg Value.bool h10) (zg (k := 1) (fun _ => by kernel_rfl) rfl (zo 14 rfl (congrArg Value.bool h10) (zj (v := (yi f.pl)) Tryz.underlying3 rfl rfl hH8 (zh 0 rfl) (CellsAt.one rfl) (zo 14 rfl (congrArg Value.bool h10) (zb (yi pl) rfl (zo 14 rfl (congrArg Value.bool h10) (o_neq (a := f.pl) (b := pl) rfl rfl (za (zm (u := (.bool (decide (f.pl ≠ pl)))) ((rfl : _ = _).trans (congrArg Value.bool h10)) rfl (za (zb (.bool (decide (f.pl ≠ pl))) rfl ?_)))))))))))
  by_cases h13 : f.pl ≠ pl
  ·
   refine zi (b' := true) 20 rfl (cT h13) rfl (zi (b' := true) 20 rfl (cT h13) rfl (zi (b' := true) 20 rfl (cT h13) rfl (zi (b' := true) 20 rfl (cT h13) rfl (za (zq (u := (.bool true)) ((rfl : _ = _).trans (cT h13)) rfl (za (zb (.bool true) rfl (zi (b' := true) 26 rfl rfl rfl (zi (b' := true) 26 rfl rfl rfl (zi (b' := true) 26 rfl rfl rfl (zi (b' := true) 26 rfl rfl rfl (za (zq (u := (.bool true)) rfl rfl (zf (ze (hK6 _ _ (zP rfl rfl (yq fun K14 hK14 => ?_))))))))))))))))))
   refine zd (za (zc (.bool false) rfl (zf (ze (hK14 _ _ (wp_ret (zx (zr Tryz.results95  (v := (.bool false)) rfl ?_))))))))
   have hH15 := (hH8.front 1 rfl).first 1 rfl
   exact ⟨by rw [fitsF, (not_f h10), Bool.true_and]; exact congrArg (fun b => Ending.returned (.bool b)) ((decide_eq_false (by omega)).symm), hH15⟩
  ·
   refine zo 20 rfl (cF h13) (zg (k := 2) (fun _ => by kernel_rfl) rfl (zo 20 rfl (cF h13) (zj (v := (yi f.gsn)) Tryz.underlying3 rfl rfl hH8 (zh 0 rfl) (CellsAt.one rfl) (zo 20 rfl (cF h13) (zb (yi ab) rfl (zo 20 rfl (cF h13) (o_leq (a := f.gsn) (b := ab) rfl rfl (za (zm (u := (.bool (decide (f.gsn ≤ ab)))) ((rfl : _ = _).trans (cF h13)) rfl (za (zb (.bool (decide (f.gsn ≤ ab))) rfl ?_)))))))))))
   by_cases h16 : f.gsn ≤ ab
   ·
    refine zi (b' := true) 26 rfl (cT h16) rfl (zi (b' := true) 26 rfl (cT h16) rfl (zi (b' := true) 26 rfl (cT h16) rfl (zi (b' := true) 26 rfl (cT h16) rfl (za (zq (u := (.bool true)) ((rfl : _ = _).trans (cT h16)) rfl (zf (ze (hK6 _ _ (zP rfl rfl (yq fun K17 hK17 => (zd (za (zc (.bool false) rfl (zf (ze (hK17 _ _ (wp_ret (zx (zr Tryz.results95  (v := (.bool false)) rfl ?_)))))))))))))))))))
    have hH18 := (hH8.front 1 rfl).first 1 rfl
    exact ⟨by rw [fitsF, (not_f h10), Bool.true_and]; exact congrArg (fun b => Ending.returned (.bool b)) ((decide_eq_false (by omega)).symm), hH18⟩
   ·
    refine zo 26 rfl (cF h16) (zg (k := 0) (fun _ => by kernel_rfl) rfl (zo 26 rfl (cF h16) (zj (v := (yi f.ep)) Tryz.underlying3 rfl rfl hH8 (zh 0 rfl) (CellsAt.one rfl) (zo 26 rfl (cF h16) (zb (yi re) rfl (zo 26 rfl (cF h16) (o_gtr (a := f.ep) (b := re) rfl rfl (za (zm (u := (.bool (decide (re < f.ep)))) ((rfl : _ = _).trans (cF h16)) rfl (zf (ze (hK6 _ _ (zt rfl (fun h19 => ?_) (fun h19 => ?_))))))))))))))
    ·
     refine yq fun K20 hK20 => (zd (za (zc (.bool false) rfl (zf (ze (hK20 _ _ (wp_ret (zx (zr Tryz.results95  (v := (.bool false)) rfl ?_)))))))))
     have hH21 := (hH8.front 1 rfl).first 1 rfl
     exact ⟨by rw [fitsF, (not_f h10), Bool.true_and]; exact congrArg (fun b => Ending.returned (.bool b)) ((decide_eq_false (by omega)).symm), hH21⟩
    ·
     refine wp_skip (ze (hK5 _ _ (yq fun K22 hK22 => (zd (za (zg (k := 0) (fun _ => by kernel_rfl) rfl (za (zj (v := (yi f.ep)) Tryz.underlying3 rfl rfl hH8 (zh 0 rfl) (CellsAt.one rfl) (za (zb (yi re) rfl (za (yc (a := f.ep) (b := re) rfl rfl (za (zb (.bool (decide (f.ep = re))) rfl ?_))))))))))))))
     by_cases h23 : f.ep = re
     ·
      refine zi (b' := true) 36 rfl (cT h23) rfl (zi (b' := true) 36 rfl (cT h23) rfl (zi (b' := true) 36 rfl (cT h23) rfl (zi (b' := true) 36 rfl (cT h23) rfl (za (zq (u := (.bool true)) ((rfl : _ = _).trans (cT h23)) rfl (za (zc (.bool true) rfl (zf (ze (hK22 _ _ (wp_ret (zr Tryz.results95  (v := (.bool true)) rfl ?_))))))))))))
      have hH24 := (hH8.front 1 rfl).first 1 rfl
      exact ⟨by rw [fitsF, (not_f h10), Bool.true_and]; exact congrArg (fun b => Ending.returned (.bool b)) ((decide_eq_true (by omega)).symm), hH24⟩
     ·
      refine zo 36 rfl (cF h23) (zg (k := 1) (fun _ => by kernel_rfl) rfl (zo 36 rfl (cF h23) (zj (v := (yi f.pl)) Tryz.underlying3 rfl rfl hH8 (zh 0 rfl) (CellsAt.one rfl) (zo 36 rfl (cF h23) (zb (yi rc) rfl (zo 36 rfl (cF h23) (zL (a := f.pl) (b := rc) rfl rfl (za (zm (u := (.bool (decide (f.pl < rc)))) ((rfl : _ = _).trans (cF h23)) rfl (za (zc (.bool (decide (f.pl < rc))) rfl (zf (ze (hK22 _ _ (wp_ret (zr Tryz.results95  (v := (.bool (decide (f.pl < rc)))) rfl ?_))))))))))))))))
      have hH25 := (hH8.front 1 rfl).first 1 rfl
      exact ⟨by rw [fitsF, (not_f h10), Bool.true_and]; exact congrArg (fun b => Ending.returned (.bool b)) (decide_eq_decide.2 (by omega)), hH25⟩
theorem refchain_c {E w : World} {R : List Hp} (hH : Has E w [R]) (t : List UInt8) (htl : t.length ≤ 1000000) (re rc pl ab : Int) (hpl0 : -9000000000000000000 ≤ pl ∧ pl ≤ 9000000000000000000) :
  Calls Tryz.prog 15 #[(yi re), (yi rc), (S t), (yi pl), (yi ab)] w fun e w' => ∃ v' hs', e = .returned (.tuple #[v', .int .i64 (chainS re rc (t.length + 1) t pl ab).2]) ∧ Own 44 4 v' (chainS re rc (t.length + 1) t pl ab).1.length ((chainS re rc (t.length + 1) t pl ab).1.flatMap frC) hs' ∧ Has E w' [hs', R] := by
 refine zs (args := [(yi re), (yi rc), (S t), (yi pl), (yi ab)]) Tryz.func15 rfl Tryz.ntmps15 (by simp) (yq fun K1 hK1 => (zd (za (zc (.slice none 0 0) rfl (za (zc (yi 0) rfl (zf (ze (hK1 _ _ (yq fun K2 hK2 => (zd (za (zc (.slice none 0 0) rfl (zf (ze (hK2 _ _ (wp_block ?_)))))))))))))))))
 let I4 : Nat → (Nat → Value) → World → Prop := fun n__ r__ w__ => ∃ (n : Nat) (cur : List UInt8) (pl2 : Int) (ab2 : Int) (va : Value) (ha : List Hp) (acc : List Fr), n__ = n + 1 ∧ Has E w__ [ha, R] ∧ (cur.length < n) ∧ (Own 44 4 va acc.length (acc.flatMap frC) ha) ∧ (pl2 + (cur.length : Int) = pl + (t.length : Int)) ∧ (25 * acc.length + cur.length ≤ t.length) ∧ ((chainS re rc (t.length + 1) t pl ab) = (acc ++ (chainS re rc n cur pl2 ab2).1, (chainS re rc n cur pl2 ab2).2)) ∧ r__ 0 = (yi re) ∧ r__ 1 = (yi rc) ∧ r__ 2 = (S cur) ∧ r__ 3 = (yi pl2) ∧ r__ 4 = (yi ab2) ∧ r__ 12 = va
 have hH5 := (Has.nil hH).first 2 rfl
 refine zX I4 _ ⟨(t.length + 1), t, pl, ab, (.slice none 0 0), [], [], rfl, hH5, (by omega), Own.nil 44 4, rfl, (by simp), (by simp), rfl, rfl, rfl, rfl, rfl, rfl⟩ ?_
 rintro n_ r8 w6 ⟨n, cur, pl2, ab2, va, ha, acc, rfl, hH7, hn, hoa, hpl, hal, hch, e3_0, e3_1, e3_2, e3_3, e3_4, e3_12⟩
 refine wp_block (yq fun K9 hK9 => (zd (za (zb (S cur) e3_2 (za (zk (vs := #[(S cur)]) ca94 rfl (zI rfl) (fref_c hH7.all cur (by omega)) ?_))))))
 rintro _ w12 ⟨rfl, hX10⟩
 refine ⟨_, rfl, ?_⟩
 have hH11 := hX10.of_all
 refine za (zb (.tuple #[(.agg #[(yi ((oF cur).ep)), (yi ((oF cur).pl)), (yi ((oF cur).gsn)), (S ((oF cur).data))]), (.bool (opensB cur))]) rfl (za (zp (v := (.agg #[(yi ((oF cur).ep)), (yi ((oF cur).pl)), (yi ((oF cur).gsn)), (S ((oF cur).data))])) rfl rfl (za (zp (v := (.bool (opensB cur))) rfl rfl (za (zU (cs := #[(yi 0), (yi 0), (yi 0), (S ([] : List UInt8))]) ti44 rfl hH11 fun b13 w14 hH15 => (zB (zv (vs := [(yi ((oF cur).ep)), (yi ((oF cur).pl)), (yi ((oF cur).gsn)), (S ((oF cur).data))]) (c' := #[(yi ((oF cur).ep)), (yi ((oF cur).pl)), (yi ((oF cur).gsn)), (S ((oF cur).data))]) ti44 rfl rfl rfl rfl (by intro u hu; simp only [List.mem_cons, List.not_mem_nil, or_false] at hu; rcases hu with rfl | rfl | rfl | rfl <;> first | rfl) (by simp) (by kernel_rfl) (hH15.front 0 rfl) fun w16 hH17 => (za (zc (.bool (opensB cur)) rfl (zf (ze (hK9 _ _ (yq fun K18 hK18 => (yq fun K19 hK19 => (zd (za (zb (.bool (opensB cur)) rfl (za (o_not rfl (za (zb (.bool (!(opensB cur))) rfl ?_)))))))))))))))))))))))
 rcases Bool.eq_false_or_eq_true (!(opensB cur)) with h20 | h20
 ·
  refine zi (b' := true) 23 rfl (congrArg Value.bool h20) rfl (zi (b' := true) 23 rfl (congrArg Value.bool h20) rfl (zi (b' := true) 23 rfl (congrArg Value.bool h20) rfl (zi (b' := true) 23 rfl (congrArg Value.bool h20) rfl (zi (b' := true) 23 rfl (congrArg Value.bool h20) rfl (zi (b' := true) 23 rfl (congrArg Value.bool h20) rfl (zi (b' := true) 23 rfl (congrArg Value.bool h20) rfl (za (zq (u := (.bool true)) ((rfl : _ = _).trans (congrArg Value.bool h20)) rfl (zf (ze (hK19 _ _ (zP rfl rfl (yq fun K21 hK21 => (zd (za (zb va e3_12 (za (zb (yi pl2) e3_3 ?_))))))))))))))))))
  refine za (zc va rfl (za (zc (yi pl2) rfl (zf (ze (hK21 _ _ (wp_ret (zx (zZ (zx (zZ (ya Tryz.results15  (v := va) rfl (x := (yi pl2)) rfl ?_))))))))))))
  have hH22 := ((hH17.front 2 rfl).front 2 rfl).first 2 rfl
  have he := chain_end (.inl (not_t h20)) hch
  exact ⟨_, _, by rw [he], by rw [he]; exact hoa, hH22⟩
 ·
  have hle := oN_le (not_f h20)
  have hny := oN_yes (not_f h20)
  refine zo 23 rfl (congrArg Value.bool h20) (zb (yi re) e3_0 (zo 23 rfl (congrArg Value.bool h20) (zb (yi rc) e3_1 (zo 23 rfl (congrArg Value.bool h20) (zG (cs := [(yi ((oF cur).ep)), (yi ((oF cur).pl)), (yi ((oF cur).gsn)), (S ((oF cur).data))]) Tryz.underlying44 rfl ti44 rfl hH17 (zh 0 rfl) (CellsAt.one rfl) (zo 23 rfl (congrArg Value.bool h20) (zb (yi pl2) e3_3 (zo 23 rfl (congrArg Value.bool h20) (zb (yi ab2) e3_4 (zo 23 rfl (congrArg Value.bool h20) (zk (vs := #[(yi re), (yi rc), (.agg #[(yi ((oF cur).ep)), (yi ((oF cur).pl)), (yi ((oF cur).gsn)), (S ((oF cur).data))]), (yi pl2), (yi ab2)]) ca95 rfl (args5 rfl rfl rfl rfl rfl) (reffits_c hH17.all (oF cur) (Nat.le_trans (oF_le cur) (by omega)) re rc pl2 ab2) ?_)))))))))))
  rintro _ w25 ⟨rfl, hX23⟩
  refine ⟨_, rfl, ?_⟩
  have hH24 := hX23.of_all
  refine zo 23 rfl (congrArg Value.bool h20) (o_not rfl (za (zm (u := (.bool (!(fitsF re rc pl2 ab2 (oF cur))))) ((rfl : _ = _).trans (congrArg Value.bool h20)) rfl (zf (ze (hK19 _ _ (z7 rfl (fun h26 => ?_) (fun h26 => ?_))))))))
  ·
   have h26_n : (fitsF re rc pl2 ab2 (oF cur)) = false := by first | simpa using h26 | exact Bool.of_not_eq_true (fun g_ => by rw [g_] at h26; cases h26)
   refine yq fun K27 hK27 => (zd (za (zb va e3_12 (za (zb (yi pl2) e3_3 (za (zc va rfl (za (zc (yi pl2) rfl (zf (ze (hK27 _ _ (wp_ret (zx (zZ (zx (zZ (ya Tryz.results15  (v := va) rfl (x := (yi pl2)) rfl ?_))))))))))))))))))
   have hH28 := ((hH24.front 2 rfl).front 2 rfl).first 2 rfl
   have he := chain_end (.inr (not_t h26)) hch
   exact ⟨_, _, by rw [he], by rw [he]; exact hoa, hH28⟩
  ·
   have h26_n : (fitsF re rc pl2 ab2 (oF cur)) = true := by first | simpa using h26 | exact Bool.of_not_eq_false (fun g_ => by rw [g_] at h26; cases h26)
   refine wp_skip (ze (hK18 _ _ (yq fun K29 hK29 => (zd (za (zb va e3_12 (za (zG (cs := [(yi ((oF cur).ep)), (yi ((oF cur).pl)), (yi ((oF cur).gsn)), (S ((oF cur).data))]) Tryz.underlying44 rfl ti44 rfl hH24 (zh 0 rfl) (CellsAt.one rfl) (za (zw (ps := #[(0, (.agg #[(yi ((oF cur).ep)), (yi ((oF cur).pl)), (yi ((oF cur).gsn)), (S ((oF cur).data))]))]) (cells := #[(yi ((oF cur).ep)), (yi ((oF cur).pl)), (yi ((oF cur).gsn)), (S ((oF cur).data))]) Tryz.underlying31 ti44 (by decide) (yb rfl) (by kernel_rfl) hH24 fun b30 w31 hH32 => (za (o_append Tryz.underlying31 ti44 rfl (by decide) rfl hoa rfl (sl_litF (f := frC) (l := [(oF cur)]) frC_len rfl rfl (by simp)) (hH32.front 2 rfl) (zh 0 rfl) (one_fr _) (by simp; omega) (by simp; omega) fun v33 s34 w36 ho35 hH37 => ?_))))))))))))
   have ho35 : Own 44 4 v33 (acc ++ [(oF cur)]).length ((acc ++ [(oF cur)]).flatMap frC) s34 := ho35.appF
   refine za (zc v33 rfl (zf (ze (hK29 _ _ (yq fun K38 hK38 => (zd (za (zg (k := 3) (fun _ => by kernel_rfl) rfl (za (zj (v := (S ((oF cur).data))) Tryz.underlying9 rfl rfl hH37 (zh 2 rfl) (CellsAt.one rfl) (za (z8 Tryz.underlying9 rfl (za (zD (a := 25) (b := (((oF cur).data).length : Int)) rfl rfl (w64 (by omega) (by omega)) (za (zc (yi (25 + (((oF cur).data).length : Int))) rfl (zf (ze (hK38 _ _ (yq fun K39 hK39 => (zd (za (zb (S cur) e3_2 ?_)))))))))))))))))))))))
   refine za (zb (yi (25 + (((oF cur).data).length : Int))) rfl (za (o_ssl_l Tryz.underlying9 rfl rfl (by omega) (by omega) (za (zc (S (cur.drop (25 + (((oF cur).data).length : Int)).toNat)) rfl (zf (ze (hK39 _ _ (yq fun K40 hK40 => (zd (za (zb (yi pl2) e3_3 (za (zb (yi (25 + (((oF cur).data).length : Int))) rfl (za (zD (a := pl2) (b := 25 + (((oF cur).data).length : Int)) rfl rfl (w64 (by omega) (by omega)) (za (zc (yi (pl2 + (25 + (((oF cur).data).length : Int)))) rfl (zf (ze (hK40 _ _ (zd (za (zg (k := 2) (fun _ => by kernel_rfl) rfl ?_))))))))))))))))))))))))
   refine za (zj (v := (yi ((oF cur).gsn))) Tryz.underlying3 rfl rfl hH37 (zh 2 rfl) (CellsAt.one rfl) (za (zc (yi ((oF cur).gsn)) rfl (zf (zC ?_)))))
   have hH41 := ((hH37.front 3 rfl).front 1 rfl).first 2 rfl
   refine ze ⟨(n - 1) + 1, _, rfl, ?_, ?_⟩
   · omega
   · exact ⟨(n - 1), (cur.drop (25 + (((oF cur).data).length : Int)).toNat), (pl2 + (25 + (((oF cur).data).length : Int))), ((oF cur).gsn), v33, s34, (acc ++ [(oF cur)]), rfl, hH41, (by simp only [List.length_drop]; omega), (ho35), (by simp only [List.length_drop]; omega), (by simp only [List.length_append, List.length_cons, List.length_nil, List.length_drop]; omega), (by rw [← hny]; exact chain_step (by omega) (not_f h20) (not_f h26) hch), e3_0, e3_1, rfl, rfl, rfl, rfl⟩
end Go.Q
namespace Go.Q
open Go.Proofs
set_option linter.unusedVariables false
set_option maxRecDepth 100000
attribute [local irreducible] wpList OK Code.wp
theorem ring8_c {E w : World} {R sg : List Hp} {pb db : Nat} {d : Dv} (hH : Has E w [sg, (yP pb d.p), R]) (hd : DevAt pb sg db d.la d.lo) (h4 : d.la.length ≤ 4096) (h64 : Full64 d.la) (h3 : 3 ≤ d.la.length) :
  Calls Tryz.prog 201 #[(yp db)] w fun e w' => e = .returned (S (ringT d.la)) ∧ Has E w' [sg, (yP pb d.p), R] := by
 refine zs (args := [(yp db)]) Tryz.func201 rfl Tryz.ntmps201 (by simp) (yq fun K1 hK1 => (zd (za (zc (S ([] : List UInt8)) rfl (zf (ze (hK1 _ _ (yq fun K2 hK2 => (zd (za (zc (.slice none 0 0) rfl (zf (ze (hK2 _ _ (yq fun K3 hK3 => (yq fun K4 hK4 => (zd (za (zc (yi 2) rfl ?_)))))))))))))))))))
 refine zf (ze (hK4 _ _ (wp_block ?_)))
 let I6 : Nat → (Nat → Value) → World → Prop := fun n__ r__ w__ => ∃ (i : Nat) (wv : Value) (sw : List Hp) (acc : Bs), n__ = d.la.length - i ∧ Has E w__ [sw, sg, (yP pb d.p), R] ∧ (2 ≤ i ∧ i ≤ d.la.length) ∧ (Own 5 1 wv acc.length (acc.map bV) sw) ∧ (acc = ((d.la.take i).drop 2).flatten) ∧ (acc.length ≤ i * 64) ∧ r__ 0 = (yp db) ∧ r__ 2 = (S ([] : List UInt8)) ∧ r__ 3 = wv ∧ r__ 4 = (yi (i : Int))
 have hH7 := (Has.nil (((hH.front 2 rfl).front 2 rfl).front 2 rfl)).first 4 rfl
 refine zX I6 _ ⟨2, (.slice none 0 0), [], ([] : Bs), rfl, hH7, ⟨Nat.le_refl _, by omega⟩, Own.nil 5 1, (by rw [List.drop_of_length_le (by rw [List.length_take]; omega)]; rfl), (by simp), rfl, rfl, rfl, rfl⟩ ?_
 rintro n_ r10 w8 ⟨i, wv, sw, acc, rfl, hH9, hi, hwv, hacc, hal, e5_0, e5_2, e5_3, e5_4⟩
 refine yq fun K11 hK11 => (yq fun K12 hK12 => (zd (za (zb (yi (i : Int)) e5_4 (za (zb (yp db) e5_0 (za (zk (vs := #[(yp db)]) ca85 rfl (zI rfl) (sectors_d (p := d.p) (la := d.la) (lo := d.lo) ((hH9.front 2 rfl).front 2 rfl).all2 hd ) ?_))))))))
 rintro _ w15 ⟨rfl, hX13⟩
 refine ⟨_, rfl, ?_⟩
 have hH14 : Has E w15 [sg, (yP pb d.p), sw, R] := hX13.of_all2
 refine za (zL (a := (i : Int)) (b := ((d.la.length : Nat) : Int)) rfl rfl (zf (ze (hK12 _ _ (zt rfl (fun h16 => ?_) (fun h16 => ?_))))))
 ·
  refine wp_skip (ze (hK11 _ _ (yq fun K17 hK17 => (wp_block (zd (za (zb wv e5_3 (za (zb (yp db) e5_0 (za (zb (yi (i : Int)) e5_4 (za (zk (vs := #[(yp db), (yi (i : Int))]) ca200 rfl (zF rfl rfl) (lasts_d (p := d.p) (la := d.la) (lo := d.lo) ((hH14.front 1 rfl).front 1 rfl).all2 hd (i : Int)) ?_)))))))))))))
  rintro _ w20 ⟨rfl, hX18⟩
  refine ⟨_, rfl, ?_⟩
  have hH19 := hX18.of_all2
  refine za (o_appstr Tryz.underlying30 Tryz.underlying9 ti5 rfl hwv rfl (hH19.front 2 rfl) (by have := lasts_le h64 (i : Int); omega) fun v21 s22 w25 ho23 hn24 hH26 => ?_)
  have ho23 : Own 5 1 v21 (acc ++ (lastsS d.la (i : Int))).length ((acc ++ (lastsS d.la (i : Int))).map bV) s22 := by rw [List.length_append, List.map_append]; exact ho23
  refine za (zc v21 rfl (zf (zC (ze (hK17 _ _ (zd (za (zb (yi (i : Int)) e5_4 (za (zD (a := (i : Int)) (b := 1) rfl rfl (w64 (by omega) (by omega)) (za (zc (yi ((i : Int) + 1)) rfl (zf (ze ⟨d.la.length - (i + 1), _, rfl, ?_, ?_⟩))))))))))))))
  · omega
  · exact ⟨(i + 1), v21, s22, (acc ++ (lastsS d.la (i : Int))), rfl, hH26, (⟨by omega, by omega⟩), (ho23), (ringT_step hi.1 (by omega) hacc), (by have := lasts_le h64 (i : Int); rw [List.length_append]; omega), e5_0, e5_2, rfl, rfl⟩
 ·
  refine wp_exit (zy (zy (x_in ((ze (hK3 _ _ (yq fun K27 hK27 => (zd (za (zb wv e5_3 (za (o_bstr Tryz.underlying30 Tryz.underlying5 Tryz.underlying9 rfl hwv.sl hH14 (zh 2 rfl) (za (zc (S acc) rfl (zf (ze (hK27 _ _ (wp_ret (zr Tryz.results201  (v := (S acc)) rfl ?_)))))))))))))))))))
  have hH28 := (((hH14.front 3 rfl).front 2 rfl).front 2 rfl).first 3 rfl
  exact ⟨by rw [ringT_all (by omega) hacc], hH28⟩
theorem has8_c {E w : World} {R : List Hp} (hH : Has E w [R]) {v : Value} {l : List Int} (hv : Ints R v l) (n : Int) :
  Calls Tryz.prog 115 #[v, (yi n)] w fun e w' => e = .returned (.bool (decide (n ∈ l))) ∧ Has E w' [R] := by
 have hn_ := hv.le
 refine zs (args := [v, (yi n)]) Tryz.func115 rfl Tryz.ntmps115 (by simp) (yq fun K1 hK1 => (zd (za (zc (.bool false) rfl (zf (ze (hK1 _ _ (yq fun K2 hK2 => (yq fun K3 hK3 => (zd (za (zc (yi 0) rfl (zf (ze (hK3 _ _ (wp_block ?_))))))))))))))))
 let I5 : Nat → (Nat → Value) → World → Prop := fun n__ r__ w__ => ∃ (k : Nat), n__ = l.length - k ∧ Has E w__ [R] ∧ (k ≤ l.length) ∧ (n ∉ l.take k) ∧ r__ 0 = v ∧ r__ 1 = (yi n) ∧ r__ 5 = (yi (k : Int))
 refine zX I5 _ ⟨0, rfl, hH, Nat.zero_le _, (by simp), rfl, rfl, rfl⟩ ?_
 rintro n_ r8 w6 ⟨k, rfl, hH7, hk, hn, e4_0, e4_1, e4_5⟩
 refine yq fun K9 hK9 => (yq fun K10 hK10 => (zd (za (zb (yi (k : Int)) e4_5 (za (zb v e4_0 (za (zQ Tryz.underlying47 rfl hv (za (zL (a := (k : Int)) (b := ((l.length : Nat) : Int)) rfl rfl (zf (ze (hK10 _ _ (zt rfl (fun h11 => ?_) (fun h11 => ?_)))))))))))))))
 ·
  refine wp_skip (ze (hK9 _ _ (yq fun K12 hK12 => (wp_block (yq fun K13 hK13 => (zd (za (zb v e4_0 (za (zb (yi (k : Int)) e4_5 ?_))))))))))
  obtain ⟨x17, hx18⟩ : ∃ x_, l[((k : Int)).toNat]? = some x_ := zN (by omega)
  refine za (z6 Tryz.underlying47 ti3 rfl hv rfl (by omega) hx18 fun b14 o15 hc16 => (za (zj (v := (yi x17)) Tryz.underlying3 rfl rfl hH7 (zh 0 rfl) hc16 (za (zb (yi n) e4_1 (za (yc (a := x17) (b := n) rfl rfl (zf (ze (hK13 _ _ (zt rfl (fun h19 => ?_) (fun h19 => ?_))))))))))))
  ·
   refine yq fun K20 hK20 => (zd (za (zc (.bool true) rfl (zf (ze (hK20 _ _ (wp_ret (zZ (zx (zx (zZ (zx (zr Tryz.results115  (v := (.bool true)) rfl ?_)))))))))))))
   exact ⟨by rw [decide_eq_true (h19 ▸ List.mem_of_getElem? hx18)], hH7⟩
  ·
   refine wp_skip (zC (ze (hK12 _ _ (zd (za (zb (yi (k : Int)) e4_5 (za (zD (a := (k : Int)) (b := 1) rfl rfl (w64 (by omega) (by omega)) (za (zc (yi ((k : Int) + 1)) rfl (zf (ze ⟨l.length - (k + 1), _, rfl, ?_, ?_⟩))))))))))))
   · omega
   · exact ⟨(k + 1), rfl, hH7, (by omega), (by rw [zS (show l[k]? = some _ from hx18)]; exact fun g => (List.mem_append.1 g).elim hn (fun g => h19 (List.mem_singleton.1 g).symm)), e4_0, e4_1, rfl⟩
 ·
  refine wp_exit (zy (zy (x_in ((ze (hK2 _ _ (yq fun K21 hK21 => (zd (za (zc (.bool false) rfl (zf (ze (hK21 _ _ (wp_ret (zr Tryz.results115  (v := (.bool false)) rfl ?_)))))))))))))))
  have e : k = l.length := by omega
  rw [e, List.take_of_length_le (Nat.le_refl _)] at hn
  exact ⟨by rw [decide_eq_false hn], hH7⟩
theorem chain8_c {E w : World} {R sg : List Hp} {pb db : Nat} {d : Dv} (hH : Has E w [sg, (yP pb d.p), R]) (hd : DevAt pb sg db d.la d.lo) (h4 : d.la.length ≤ 4096) (h64 : Full64 d.la) (h3 : 3 ≤ d.la.length) :
  Calls Tryz.prog 111 #[(yp db)] w fun e w' => ∃ v' F hs', e = .returned v' ∧ Own 44 4 v' F.length (F.flatMap frC) hs' ∧ FrsOk F ∧ Has E w' [hs', sg, (yP pb d.p), R] := by
 have hrl_ := ringT_len h64
 have ha_ := lasts_le h64 0
 have hb_ := lasts_le h64 1
 refine zs (args := [(yp db)]) Tryz.func111 rfl Tryz.ntmps111 (by simp) (yq fun K1 hK1 => (zd (za (zc (.slice none 0 0) rfl (zf (ze (hK1 _ _ (yq fun K2 hK2 => (zd (za (zb (yp db) rfl (za (zk (vs := #[(yp db), (yi 0)]) ca200 rfl (zF rfl rfl) (lasts_d (p := d.p) (la := d.la) (lo := d.lo) ((hH.front 1 rfl).front 1 rfl).all2 hd 0) ?_)))))))))))))
 rintro _ w5 ⟨rfl, hX3⟩
 refine ⟨_, rfl, ?_⟩
 have hH4 := hX3.of_all2
 refine za (zb (yp db) rfl (za (zk (vs := #[(yp db), (yi 1)]) ca200 rfl (zF rfl rfl) (lasts_d (p := d.p) (la := d.la) (lo := d.lo) ((hH4.front 1 rfl).front 1 rfl).all2 hd 1) ?_)))
 rintro _ w8 ⟨rfl, hX6⟩
 refine ⟨_, rfl, ?_⟩
 have hH7 := hX6.of_all2
 refine za (zk (vs := #[(S (lastsS d.la 0)), (S (lastsS d.la 1))]) ca199 rfl (zF rfl rfl) (r7load_c (s := (lastsS d.la 0)) (t := (lastsS d.la 1)) hH7.all (by first | omega | (simp only []; omega) | (simp; done) | (simp; omega)) (by first | omega | (simp only []; omega) | (simp; done) | (simp; omega))) ?_)
 rintro _ w11 ⟨rfl, hX9⟩
 refine ⟨_, rfl, ?_⟩
 have hH10 := hX9.of_all
 refine za (zb (.tuple #[(.agg (yH ((ldD (lastsS d.la 0) (lastsS d.la 1)).1))), (yi ((ldD (lastsS d.la 0) (lastsS d.la 1)).2))]) rfl (za (zp (v := (.agg (yH ((ldD (lastsS d.la 0) (lastsS d.la 1)).1)))) rfl rfl (za (zp (v := (yi ((ldD (lastsS d.la 0) (lastsS d.la 1)).2))) rfl rfl (za (zU (cs := y0A) zT rfl hH10 fun b12 w13 hH14 => (zB (zv (vs := (yL ((ldD (lastsS d.la 0) (lastsS d.la 1)).1))) (c' := (yH ((ldD (lastsS d.la 0) (lastsS d.la 1)).1))) zT rfl rfl rfl rfl y5 (by simp) (by kernel_rfl) (hH14.front 0 rfl) fun w15 hH16 => (za (zc (yi ((ldD (lastsS d.la 0) (lastsS d.la 1)).2)) rfl (zf (ze (hK2 _ _ (yq fun K17 hK17 => (zd (za (zb (yp db) rfl (za (zk (vs := #[(yp db)]) ca201 rfl (zI rfl) (ring8_c (d := d) ((hH16.front 2 rfl).front 2 rfl).all2 hd h4 h64 h3) ?_))))))))))))))))))))
 rintro _ w20 ⟨rfl, hX18⟩
 refine ⟨_, rfl, ?_⟩
 have hH19 : Has E w20 [sg, (yP pb d.p), [Hp.one b12 (.cells (yH ((ldD (lastsS d.la 0) (lastsS d.la 1)).1)) 275 (0, 0))], R] := hX18.of_all2
 refine za (zc (S (ringT d.la)) rfl (zf (ze (hK17 _ _ (yq fun K21 hK21 => (yq fun K22 hK22 => (zd (za (zb (yi ((ldD (lastsS d.la 0) (lastsS d.la 1)).2)) rfl (za (o_neq (a := (ldD (lastsS d.la 0) (lastsS d.la 1)).2) (b := 0) rfl rfl (za (zb (.bool (decide ((ldD (lastsS d.la 0) (lastsS d.la 1)).2 ≠ 0))) rfl ?_)))))))))))))
 by_cases h23 : (ldD (lastsS d.la 0) (lastsS d.la 1)).2 ≠ 0
 ·
  refine zi (b' := true) 21 rfl (cT h23) rfl (zi (b' := true) 21 rfl (cT h23) rfl (zi (b' := true) 21 rfl (cT h23) rfl (za (zq (u := (.bool true)) ((rfl : _ = _).trans (cT h23)) rfl (zf (ze (hK22 _ _ (zP rfl rfl (yq fun K24 hK24 => (zd (za (zc (.slice none 0 0) rfl (zf (ze (hK24 _ _ (wp_ret (zx (zr Tryz.results111  (v := (.slice none 0 0)) rfl ?_))))))))))))))))))
  have hH25 := (((hH19.front 3 rfl).front 2 rfl).front 2 rfl).first 3 rfl
  exact ⟨_, [], _, rfl, Own.nil 44 4, FrsOk.nil, Has.nil (hH25)⟩
 ·
  obtain ⟨⟨hb1_, hb1b_⟩, ⟨hb2_, hb2b_⟩, ⟨hb3_, hb3b_⟩, ⟨hst1_, hst2_⟩, _⟩ := of_decide_eq_true (ldD_R (Classical.not_not.1 h23))
  refine zo 21 rfl (cF h23) (zb (S (ringT d.la)) rfl (zo 21 rfl (cF h23) (z8 Tryz.underlying9 rfl (zo 21 rfl (cF h23) (yc (a := ((ringT d.la).length : Int)) (b := 0) rfl rfl (za (zm (u := (.bool (decide (((ringT d.la).length : Int) = 0)))) ((rfl : _ = _).trans (cF h23)) rfl (zf (ze (hK22 _ _ (zt rfl (fun h26 => ?_) (fun h26 => ?_))))))))))))
  ·
   refine yq fun K27 hK27 => (zd (za (zc (.slice none 0 0) rfl (zf (ze (hK27 _ _ (wp_ret (zx (zr Tryz.results111  (v := (.slice none 0 0)) rfl ?_)))))))))
   have hH28 := (((hH19.front 3 rfl).front 2 rfl).front 2 rfl).first 3 rfl
   exact ⟨_, [], _, rfl, Own.nil 44 4, FrsOk.nil, Has.nil (hH28)⟩
  ·
   refine wp_skip (ze (hK21 _ _ (yq fun K29 hK29 => (zd (za (zg (k := 3) (fun _ => by kernel_rfl) rfl (za (zj (v := (yi ((ldD (lastsS d.la 0) (lastsS d.la 1)).1).st)) Tryz.underlying3 rfl rfl hH19 (zh 2 rfl) (CellsAt.one rfl) (za (zb (S (ringT d.la)) rfl (za (z8 Tryz.underlying9 rfl ?_))))))))))))
   have hm30 := emod_b (((ldD (lastsS d.la 0) (lastsS d.la 1)).1).st) ((ringT d.la).length : Int) (by omega)
   refine za (o_rem (a := ((ldD (lastsS d.la 0) (lastsS d.la 1)).1).st) (b := ((ringT d.la).length : Int)) (c := (((ldD (lastsS d.la 0) (lastsS d.la 1)).1).st) % ((ringT d.la).length : Int)) rfl rfl (by omega) ((Int.tmod_eq_emod_of_nonneg (by first | exact Int.natCast_nonneg _ | omega))) (za (zc (yi ((((ldD (lastsS d.la 0) (lastsS d.la 1)).1).st) % ((ringT d.la).length : Int))) rfl (zf (ze (hK29 _ _ (yq fun K31 hK31 => (Rest.region mixed (by kernel_rfl) ?_))))))))
   have hH32 : Has E { w20 with drawn := w20.drawn + 1 } [sg, (yP pb d.p), [Hp.one b12 (.cells (yH ((ldD (lastsS d.la 0) (lastsS d.la 1)).1)) 275 (0, 0))], R] := Has0.drew hH19 _
   refine Rest.phaseA (fun w_ => Has E w_ [[Hp.one b12 (.cells (yH ((ldD (lastsS d.la 0) (lastsS d.la 1)).1)) 275 (0, 0))]]) 0 13 13 rfl (by decide) (by kernel_rfl) (zn 0 rfl (by kernel_rfl) (fun w_ h_ => zg (k := 1) (fun _ => by kernel_rfl) rfl ⟨rfl, rfl⟩) (zn 1 rfl (by kernel_rfl) (fun w_ h_ => zj (v := (yi ((ldD (lastsS d.la 0) (lastsS d.la 1)).1).ep)) Tryz.underlying3 rfl rfl h_ (zh 0 rfl) (CellsAt.one rfl) ⟨rfl, rfl⟩) (zn 2 rfl (by kernel_rfl) (fun w_ h_ => zg (k := 2) (fun _ => by kernel_rfl) rfl ⟨rfl, rfl⟩) (zn 3 rfl (by kernel_rfl) (fun w_ h_ => zj (v := (yi ((ldD (lastsS d.la 0) (lastsS d.la 1)).1).cut)) Tryz.underlying3 rfl rfl h_ (zh 0 rfl) (CellsAt.one rfl) ⟨rfl, rfl⟩) (zn 4 rfl (by kernel_rfl) (fun w_ h_ => zb (S (ringT d.la)) rfl ⟨rfl, rfl⟩) (zn 5 rfl (by kernel_rfl) (fun w_ h_ => zb (yi ((((ldD (lastsS d.la 0) (lastsS d.la 1)).1).st) % ((ringT d.la).length : Int))) rfl ⟨rfl, rfl⟩) (zn 6 rfl (by kernel_rfl) (fun w_ h_ => o_ssl_l Tryz.underlying9 rfl rfl (by omega) (by omega) ⟨rfl, rfl⟩) (zn 7 rfl (by kernel_rfl) (fun w_ h_ => zb (S (ringT d.la)) rfl ⟨rfl, rfl⟩) (zn 8 rfl (by kernel_rfl) (fun w_ h_ => zb (yi ((((ldD (lastsS d.la 0) (lastsS d.la 1)).1).st) % ((ringT d.la).length : Int))) rfl ⟨rfl, rfl⟩) (zn 9 rfl (by kernel_rfl) (fun w_ h_ => o_ssl_h Tryz.underlying9 rfl rfl (by omega) (by omega) ⟨rfl, rfl⟩) (zn 10 rfl (by kernel_rfl) (fun w_ h_ => o_sadd rfl rfl (by simp only [List.length_drop, List.length_take]; omega) ⟨rfl, rfl⟩) (zn 11 rfl (by kernel_rfl) (fun w_ h_ => zg (k := 3) (fun _ => by kernel_rfl) rfl ⟨rfl, rfl⟩) (zn 12 rfl (by kernel_rfl) (fun w_ h_ => zj (v := (yi ((ldD (lastsS d.la 0) (lastsS d.la 1)).1).st)) Tryz.underlying3 rfl rfl h_ (zh 0 rfl) (CellsAt.one rfl) ⟨rfl, rfl⟩) ?_)))))))))))))
   have hH33 := (hH32.front 2 rfl).first 1 rfl
   refine zM (by kernel_rfl) hH33 (zO 13 rfl (by kernel_rfl) (zk (vs := #[(yi ((ldD (lastsS d.la 0) (lastsS d.la 1)).1).ep), (yi ((ldD (lastsS d.la 0) (lastsS d.la 1)).1).cut), (S (((ringT d.la).drop ((((ldD (lastsS d.la 0) (lastsS d.la 1)).1).st) % ((ringT d.la).length : Int)).toNat) ++ ((ringT d.la).take ((((ldD (lastsS d.la 0) (lastsS d.la 1)).1).st) % ((ringT d.la).length : Int)).toNat))), (yi ((ldD (lastsS d.la 0) (lastsS d.la 1)).1).st), (yi (-1))]) ca15 rfl (args5 rfl rfl rfl rfl rfl) (refchain_c hH32.all (((ringT d.la).drop ((((ldD (lastsS d.la 0) (lastsS d.la 1)).1).st) % ((ringT d.la).length : Int)).toNat) ++ ((ringT d.la).take ((((ldD (lastsS d.la 0) (lastsS d.la 1)).1).st) % ((ringT d.la).length : Int)).toNat)) (by simp only [List.length_append, List.length_drop, List.length_take]; omega) (((ldD (lastsS d.la 0) (lastsS d.la 1)).1).ep) (((ldD (lastsS d.la 0) (lastsS d.la 1)).1).cut) (((ldD (lastsS d.la 0) (lastsS d.la 1)).1).st) (-1) (by omega)) ?_))
   rintro _ w39 ⟨v34, s35, rfl, ho36, hX37⟩
   refine ⟨_, rfl, ?_⟩
   have hH38 : Has E w39 [s35, sg, (yP pb d.p), [Hp.one b12 (.cells (yH ((ldD (lastsS d.la 0) (lastsS d.la 1)).1)) 275 (0, 0))], R] := hX37.of_all1
   refine zO 14 rfl (by kernel_rfl) (zb (.tuple #[v34, (yi ((chainS (((ldD (lastsS d.la 0) (lastsS d.la 1)).1).ep) (((ldD (lastsS d.la 0) (lastsS d.la 1)).1).cut) ((((ringT d.la).drop ((((ldD (lastsS d.la 0) (lastsS d.la 1)).1).st) % ((ringT d.la).length : Int)).toNat) ++ ((ringT d.la).take ((((ldD (lastsS d.la 0) (lastsS d.la 1)).1).st) % ((ringT d.la).length : Int)).toNat)).length + 1) (((ringT d.la).drop ((((ldD (lastsS d.la 0) (lastsS d.la 1)).1).st) % ((ringT d.la).length : Int)).toNat) ++ ((ringT d.la).take ((((ldD (lastsS d.la 0) (lastsS d.la 1)).1).st) % ((ringT d.la).length : Int)).toNat)) (((ldD (lastsS d.la 0) (lastsS d.la 1)).1).st) (-1)).2))]) rfl (Rest.phaseA (fun w_ => Has E w_ []) 15 18 3 rfl (by decide) (by kernel_rfl) (zn 15 rfl (by kernel_rfl) (fun w_ h_ => zp (v := v34) rfl rfl ⟨rfl, rfl⟩) (zn 16 rfl (by kernel_rfl) (fun w_ h_ => zp (v := (yi ((chainS (((ldD (lastsS d.la 0) (lastsS d.la 1)).1).ep) (((ldD (lastsS d.la 0) (lastsS d.la 1)).1).cut) ((((ringT d.la).drop ((((ldD (lastsS d.la 0) (lastsS d.la 1)).1).st) % ((ringT d.la).length : Int)).toNat) ++ ((ringT d.la).take ((((ldD (lastsS d.la 0) (lastsS d.la 1)).1).st) % ((ringT d.la).length : Int)).toNat)).length + 1) (((ringT d.la).drop ((((ldD (lastsS d.la 0) (lastsS d.la 1)).1).st) % ((ringT d.la).length : Int)).toNat) ++ ((ringT d.la).take ((((ldD (lastsS d.la 0) (lastsS d.la 1)).1).st) % ((ringT d.la).length : Int)).toNat)) (((ldD (lastsS d.la 0) (lastsS d.la 1)).1).st) (-1)).2))) rfl rfl ⟨rfl, rfl⟩) (zn 17 rfl (by kernel_rfl) (fun w_ h_ => zc v34 rfl ⟨rfl, rfl⟩) ?_)))))
   have hH40 := hH38.first 0 rfl
   refine zM (by kernel_rfl) hH40 (zO 18 rfl (by kernel_rfl) (zc (yi ((chainS (((ldD (lastsS d.la 0) (lastsS d.la 1)).1).ep) (((ldD (lastsS d.la 0) (lastsS d.la 1)).1).cut) ((((ringT d.la).drop ((((ldD (lastsS d.la 0) (lastsS d.la 1)).1).st) % ((ringT d.la).length : Int)).toNat) ++ ((ringT d.la).take ((((ldD (lastsS d.la 0) (lastsS d.la 1)).1).st) % ((ringT d.la).length : Int)).toNat)).length + 1) (((ringT d.la).drop ((((ldD (lastsS d.la 0) (lastsS d.la 1)).1).st) % ((ringT d.la).length : Int)).toNat) ++ ((ringT d.la).take ((((ldD (lastsS d.la 0) (lastsS d.la 1)).1).st) % ((ringT d.la).length : Int)).toNat)) (((ldD (lastsS d.la 0) (lastsS d.la 1)).1).st) (-1)).2)) rfl (Rest.done (by kernel_rfl) (ze (hK31 _ _ (yq fun K41 hK41 => (zd (za (zb v34 rfl (za (zc v34 rfl (zf (ze (hK41 _ _ (wp_ret (zr Tryz.results111  (v := v34) rfl ?_))))))))))))))))
   have hH42 := ((((hH38.front 4 rfl).front 3 rfl).front 3 rfl).front 3 rfl).first 4 rfl
   exact ⟨_, _, _, rfl, ho36, FrsOk.chain _ _ _ _ _ _, hH42⟩
end Go.Q
namespace Go.Q
open Go.Proofs
set_option linter.unusedVariables false
set_option maxRecDepth 100000
attribute [local irreducible] wpList OK Code.wp
theorem pasted8_c {E w : World} {R sg : List Hp} {pb db : Nat} {d : Dv} (hH : Has E w [sg, (yP pb d.p), R]) (hd : DevAt pb sg db d.la d.lo) (h4 : d.la.length ≤ 4096) (h64 : Full64 d.la) (h3 : 3 ≤ d.la.length) {vd : Value} (hvd : Sl R 1 vd [db].length ([db].map ptC)) :
  Calls Tryz.prog 116 #[vd] w fun e w' => ∃ b, e = .returned (.bool b) ∧ (b = false → PstD d.la) ∧ Has E w' [sg, (yP pb d.p), R] := by
 have ha_ := lasts_le h64 0
 have hb_ := lasts_le h64 1
 refine zs (args := [vd]) Tryz.func116 rfl Tryz.ntmps116 (by simp) (yq fun K1 hK1 => (zd (za (zc (.bool false) rfl (zf (ze (hK1 _ _ (yq fun K2 hK2 => (yq fun K3 hK3 => (zd (za (zc (yi 0) rfl (zf (ze (hK3 _ _ (wp_block (u_loop 3 (u_round (yq fun K4 hK4 => ?_)))))))))))))))))))
 refine yq fun K5 hK5 => (zd (za (zb (yi 0) rfl (za (zb vd rfl (za (zQ Tryz.underlying74 rfl hvd (za (zL (a := 0) (b := 1) rfl rfl (zf (ze (hK5 _ _ (zP rfl rfl (wp_skip (ze (hK4 _ _ (yq fun K6 hK6 => (wp_block (yq fun K7 hK7 => ?_)))))))))))))))))))
 let J9 : (Nat → Value) → World → Prop := fun r__ w__ => ∃ (b4 : Nat) (hv : Hd) (no : Int), Has E w__ [[Hp.one b4 (.cells (yH hv) 275 (0, 0))], sg, (yP pb d.p), R] ∧ ((hv, no) = (ldD (lastsS d.la 0) (lastsS d.la 1))) ∧ r__ 0 = vd ∧ r__ 2 = (.bool false) ∧ r__ 3 = (yi 0) ∧ r__ 4 = (yp b4) ∧ r__ 5 = (yi no) ∧ r__ 18 = (.bool true)
 have hJ10 : ∀ r w, J9 r w → K7 (Go.Q.fr 116 r) w := by
  rintro r13 w11 ⟨b4, hv, no, hH12, hh, e8_0, e8_2, e8_3, e8_4, e8_5, e8_18⟩
  have hh1_ : (ldD (lastsS d.la 0) (lastsS d.la 1)).1 = hv := by rw [← hh]
  have hh2_ : (ldD (lastsS d.la 0) (lastsS d.la 1)).2 = no := by rw [← hh]
  refine hK7 _ _ (yq fun K14 hK14 => (zd (za (zb vd e8_0 (za (zb (yi 0) e8_3 (za (z6 Tryz.underlying74 ti25 rfl hvd rfl (by omega) (show [db][((0 : Int)).toNat]? = some db from rfl) fun b15 o16 hc17 => (za (zj (v := (yp db)) Tryz.underlying25 rfl rfl hH12 (zh 3 rfl) hc17 ?_))))))))))
  have hrl_ := ringT_len h64
  refine za (zk (vs := #[(yp db)]) ca201 rfl (zI rfl) (calls_name (fun x_ : Bs => S x_) (ringT d.la) (ring8_c (d := d) ((hH12.front 2 rfl).front 2 rfl).all2 hd h4 h64 h3)) ?_)
  rintro _ w20 ⟨rg, hrg, rfl, hX18⟩
  refine ⟨_, rfl, ?_⟩
  have hH19 := hX18.of_all2
  rw [← hrg] at hrl_
  refine za (zc (S rg) rfl (zf (ze (hK14 _ _ (yq fun K21 hK21 => (zd (za (zb (S rg) rfl (za (z8 Tryz.underlying9 rfl (za (zc (yi (rg.length : Int)) rfl (zf (ze (hK21 _ _ (yq fun K22 hK22 => (zd (za (zb (S rg) rfl (za (zb (S rg) rfl (za (o_sadd rfl rfl (by omega) ?_)))))))))))))))))))))))
  refine za (zc (S (rg ++ rg)) rfl (zf (ze (hK22 _ _ (yq fun K23 hK23 => (zd (za (zc (yi (-1)) rfl (za (zc (yi 0) rfl (zf (ze (hK23 _ _ (yq fun K24 hK24 => (yq fun K25 hK25 => (zd (za (zc (yi 0) rfl (zf (ze (hK25 _ _ ?_)))))))))))))))))))))
  refine wp_block ?_
  let I27 : Nat → (Nat → Value) → World → Prop := fun n__ r__ w__ => ∃ (a : Nat) (fi : Int) (en : Int), n__ = rg.length - a ∧ Has E w__ [sg, (yP pb d.p), [Hp.one b4 (.cells (yH hv) 275 (0, 0))], R] ∧ (a ≤ rg.length) ∧ (-1 ≤ fi ∧ fi ≤ (rg.length : Int)) ∧ (0 ≤ en ∧ en ≤ (rg.length : Int) + 225) ∧ (Pst rg hv.ep a) ∧ r__ 0 = vd ∧ r__ 3 = (yi 0) ∧ r__ 4 = (yp b4) ∧ r__ 5 = (yi no) ∧ r__ 6 = (S (rg ++ rg)) ∧ r__ 7 = (yi (rg.length : Int)) ∧ r__ 8 = (yi fi) ∧ r__ 9 = (yi en) ∧ r__ 10 = (yi (a : Int)) ∧ r__ 18 = (.bool true)
  refine zX I27 _ ⟨0, (-1), 0, rfl, hH19, Nat.zero_le _, ⟨by decide, by omega⟩, ⟨by decide, by omega⟩, Pst.none _ _, e8_0, e8_3, e8_4, e8_5, rfl, rfl, rfl, rfl, rfl, e8_18⟩ ?_
  rintro n_ r30 w28 ⟨a, fi, en, rfl, hH29, ha, hfi, hen, hP, e26_0, e26_3, e26_4, e26_5, e26_6, e26_7, e26_8, e26_9, e26_10, e26_18⟩
  refine yq fun K31 hK31 => (yq fun K32 hK32 => (zd (za (zb (yi (a : Int)) e26_10 (za (zb (yi (rg.length : Int)) e26_7 (za (zL (a := (a : Int)) (b := (rg.length : Int)) rfl rfl (za (zb (.bool (decide ((a : Int) < (rg.length : Int)))) rfl ?_))))))))))
  by_cases h33 : (a : Int) < (rg.length : Int)
  ·
   refine zo 48 rfl (cT h33) (zb (yi no) e26_5 (zo 48 rfl (cT h33) (yc (a := no) (b := 0) rfl rfl (za (zq (u := (.bool (decide (no = 0)))) ((rfl : _ = _).trans (cT h33)) rfl (zf (ze (hK32 _ _ (zt rfl (fun h34 => ?_) (fun h34 => ?_))))))))))
   ·
    refine wp_skip (ze (hK31 _ _ (yq fun K35 hK35 => (wp_block (yq fun K36 hK36 => (zd (za (zc (yi 0) rfl (zf (ze (hK36 _ _ (yq fun K37 hK37 => (yq fun K38 hK38 => (zd (za (zc (yi 5) rfl (zf (ze (hK38 _ _ ?_)))))))))))))))))))
    refine wp_block ?_
    let I40 : Nat → (Nat → Value) → World → Prop := fun n__ r__ w__ => ∃ (j : Nat) (pl : Int), n__ = 13 - j ∧ Has E w__ [sg, (yP pb d.p), [Hp.one b4 (.cells (yH hv) 275 (0, 0))], R] ∧ (5 ≤ j ∧ j ≤ 13) ∧ (pl = plcN (rg ++ rg) a (j - 5)) ∧ r__ 0 = vd ∧ r__ 3 = (yi 0) ∧ r__ 4 = (yp b4) ∧ r__ 5 = (yi no) ∧ r__ 6 = (S (rg ++ rg)) ∧ r__ 7 = (yi (rg.length : Int)) ∧ r__ 8 = (yi fi) ∧ r__ 9 = (yi en) ∧ r__ 10 = (yi (a : Int)) ∧ r__ 11 = (yi pl) ∧ r__ 12 = (yi (j : Int)) ∧ r__ 18 = (.bool true) ∧ r__ 51 = (.bool (decide (no = 0)))
    refine zX I40 _ ⟨5, 0, rfl, hH29, ⟨by decide, by decide⟩, rfl, e26_0, e26_3, e26_4, e26_5, e26_6, e26_7, e26_8, e26_9, e26_10, rfl, rfl, e26_18, rfl⟩ ?_
    rintro n_ r43 w41 ⟨j, pl, rfl, hH42, hj, hpl, e39_0, e39_3, e39_4, e39_5, e39_6, e39_7, e39_8, e39_9, e39_10, e39_11, e39_12, e39_18, e39_51⟩
    refine yq fun K44 hK44 => (yq fun K45 hK45 => (zd (za (zb (yi (j : Int)) e39_12 (za (zL (a := (j : Int)) (b := 13) rfl rfl (zf (ze (hK45 _ _ (zt rfl (fun h46 => ?_) (fun h46 => ?_)))))))))))
    ·
     refine wp_skip (ze (hK44 _ _ (yq fun K47 hK47 => (wp_block (zd (za (zb (yi pl) e39_11 (za (o_mul (a := pl) (b := 256) (c := IntKind.wrap .i64 (pl * 256)) rfl rfl rfl (za (zb (S (rg ++ rg)) e39_6 (za (zb (yi (a : Int)) e39_10 (za (zb (yi (j : Int)) e39_12 (za (zD (a := (a : Int)) (b := (j : Int)) rfl rfl (w64 (by omega) (by omega)) ?_)))))))))))))))))
     obtain ⟨c48, hx49⟩ : ∃ x_, (rg ++ rg)[((a : Int) + (j : Int)).toNat]? = some x_ := zN (by simp only [List.length_append]; omega)
     have c48_lt := c48.toNat_lt
     refine za (o_sidx Tryz.underlying9 rfl rfl (by omega) hx49 (za (o_conv Tryz.underlying5 Tryz.underlying3 rfl (w_u8 _) (za (zD (a := (IntKind.wrap .i64 (pl * 256))) (b := (c48.toNat : Int)) (c := IntKind.wrap .i64 ((IntKind.wrap .i64 (pl * 256)) + (c48.toNat : Int))) rfl rfl rfl (za (zc (yi (IntKind.wrap .i64 ((IntKind.wrap .i64 (pl * 256)) + (c48.toNat : Int)))) rfl (zf (zC (ze (hK47 _ _ (zd (za (zb (yi (j : Int)) e39_12 (za (zD (a := (j : Int)) (b := 1) rfl rfl (w64 (by omega) (by omega)) (za (zc (yi ((j : Int) + 1)) rfl (zf (ze ⟨13 - (j + 1), _, rfl, ?_, ?_⟩))))))))))))))))))))
     · omega
     · exact ⟨(j + 1), (IntKind.wrap .i64 ((IntKind.wrap .i64 (pl * 256)) + (c48.toNat : Int))), rfl, hH42, (⟨by omega, by omega⟩), (plc_step hj.1 (show (rg ++ rg)[((a : Int) + (j : Int)).toNat]? = some _ from hx49) hpl), e39_0, e39_3, e39_4, e39_5, e39_6, e39_7, e39_8, e39_9, e39_10, rfl, rfl, e39_18, e39_51⟩
    ·
     refine wp_exit (zy (zy (x_in ((ze (hK37 _ _ (yq fun K50 hK50 => (yq fun K51 hK51 => (zd (za (zb (yi pl) e39_11 (za (zb (yi (rg.length : Int)) e39_7 (za (o_rem (a := pl) (b := (rg.length : Int)) (c := Int.tmod pl (rg.length : Int)) rfl rfl (by omega) rfl (za (zb (yi (a : Int)) e39_10 (za (o_neq (a := (Int.tmod pl (rg.length : Int))) (b := (a : Int)) rfl rfl (zf (ze (hK51 _ _ (zt rfl (fun h52 => ?_) (fun h52 => ?_))))))))))))))))))))))))
     ·
      have hp8_ : pl = plcN (rg ++ rg) a 8 := by rw [hpl, show j - 5 = 8 by omega]
      refine wp_exit (zy (x_in ((ze (hK35 _ _ (zd (za (zb (yi (a : Int)) e39_10 (za (zD (a := (a : Int)) (b := 1) rfl rfl (w64 (by omega) (by omega)) (za (zc (yi ((a : Int) + 1)) rfl (zf (ze ⟨rg.length - (a + 1), _, rfl, ?_, ?_⟩))))))))))))))
      · omega
      · exact ⟨(a + 1), fi, en, rfl, hH42, (by omega), (⟨by omega, by omega⟩), (⟨by omega, by omega⟩), (hP.place (by rw [← hp8_]; exact h52)), e39_0, e39_3, e39_4, e39_5, e39_6, e39_7, e39_8, e39_9, rfl, e39_18⟩
     ·
      have hp8_ : pl = plcN (rg ++ rg) a 8 := by rw [hpl, show j - 5 = 8 by omega]
      refine wp_skip (ze (hK50 _ _ (yq fun K53 hK53 => (zd (za (zb (S (rg ++ rg)) e39_6 (za (zb (yi (a : Int)) e39_10 (za (zb (yi (a : Int)) e39_10 (za (zb (yi (rg.length : Int)) e39_7 (za (zD (a := (a : Int)) (b := (rg.length : Int)) rfl rfl (w64 (by omega) (by omega)) (za (o_ssl Tryz.underlying9 rfl rfl rfl (by omega) (by omega) (by simp only [List.length_append]; omega) (za (zk (vs := #[(S (((rg ++ rg).take ((a : Int) + (rg.length : Int)).toNat).drop ((a : Int)).toNat))]) ca94 rfl (zI rfl) (calls_name (fun x_ : Fr × Bool => .tuple #[.agg #[.int .i64 x_.1.ep, .int .i64 x_.1.pl, .int .i64 x_.1.gsn, S x_.1.data], .bool x_.2]) (oF (((rg ++ rg).take ((a : Int) + (rg.length : Int)).toNat).drop ((a : Int)).toNat), opensB (((rg ++ rg).take ((a : Int) + (rg.length : Int)).toNat).drop ((a : Int)).toNat)) (fref_c hH42.all (((rg ++ rg).take ((a : Int) + (rg.length : Int)).toNat).drop ((a : Int)).toNat) (by simp only [List.length_drop, List.length_take]; omega))) ?_))))))))))))))))))
      rintro _ w58 ⟨fo54, hfo55, rfl, hX56⟩
      refine ⟨_, rfl, ?_⟩
      have hH57 := hX56.of_all
      refine za (zb (.tuple #[(.agg #[(yi fo54.1.ep), (yi fo54.1.pl), (yi fo54.1.gsn), (S fo54.1.data)]), (.bool fo54.2)]) rfl (za (zp (v := (.agg #[(yi fo54.1.ep), (yi fo54.1.pl), (yi fo54.1.gsn), (S fo54.1.data)])) rfl rfl (za (zp (v := (.bool fo54.2)) rfl rfl (za (zU (cs := #[(yi 0), (yi 0), (yi 0), (S ([] : List UInt8))]) ti44 rfl hH57 fun b59 w60 hH61 => (zB (zv (vs := [(yi fo54.1.ep), (yi fo54.1.pl), (yi fo54.1.gsn), (S fo54.1.data)]) (c' := #[(yi fo54.1.ep), (yi fo54.1.pl), (yi fo54.1.gsn), (S fo54.1.data)]) ti44 rfl rfl rfl rfl (by intro u hu; simp only [List.mem_cons, List.not_mem_nil, or_false] at hu; rcases hu with rfl | rfl | rfl | rfl <;> first | rfl) (by simp) (by kernel_rfl) (hH61.front 0 rfl) fun w62 hH63 => (za (zc (.bool fo54.2) rfl (zf (ze (hK53 _ _ (yq fun K64 hK64 => (yq fun K65 hK65 => (zd (za (zb (.bool fo54.2) rfl (za (o_not rfl (zf (ze (hK65 _ _ ?_))))))))))))))))))))))))
      refine z7 rfl (fun h66 => ?_) (fun h66 => ?_)
      ·
       have h66_n : fo54.2 = false := by first | simpa using h66 | exact Bool.of_not_eq_true (fun g_ => by rw [g_] at h66; cases h66)
       refine wp_exit (zy (x_in ((ze (hK35 _ _ (zd (za (zb (yi (a : Int)) e39_10 (za (zD (a := (a : Int)) (b := 1) rfl rfl (w64 (by omega) (by omega)) (za (zc (yi ((a : Int) + 1)) rfl (zf ?_)))))))))))))
       have hH67 := ((((hH63.front 4 rfl).front 4 rfl).front 4 rfl).front 4 rfl).first 4 rfl
       refine ze ⟨rg.length - (a + 1), _, rfl, ?_, ?_⟩
       · omega
       · exact ⟨(a + 1), fi, en, rfl, hH67, (by omega), (⟨by omega, by omega⟩), (⟨by omega, by omega⟩), (hP.next (fun g_ => by have k_ := h66; rw [show fo54.2 = true from (congrArg Prod.snd hfo55).trans g_] at k_; simp at k_)), e39_0, e39_3, e39_4, e39_5, e39_6, e39_7, e39_8, e39_9, rfl, e39_18⟩
      ·
       have h66_n : fo54.2 = true := by first | simpa using h66 | exact Bool.of_not_eq_false (fun g_ => by rw [g_] at h66; cases h66)
       obtain ⟨hr1_, hr2_, hr3_, hr4_, hr5_, hr6_, hr7_⟩ : _ := rightS_of (f := fo54.1) (by have k_ := h66; rw [hfo55]; exact oF_right (by have e_ := congrArg Prod.snd hfo55; simp only at e_; rw [← e_]; simpa using k_))
       refine wp_skip (ze (hK64 _ _ (yq fun K68 hK68 => (yq fun K69 hK69 => (zd (za (zg (k := 0) (fun _ => by kernel_rfl) rfl (za (zj (v := (yi fo54.1.ep)) Tryz.underlying3 rfl rfl hH63 (zh 0 rfl) (CellsAt.one rfl) (za (zg (k := 1) (fun _ => by kernel_rfl) e39_4 (za (zj (v := (yi hv.ep)) Tryz.underlying3 rfl rfl hH63 (zh 3 rfl) (CellsAt.one rfl) (za (o_gtr (a := fo54.1.ep) (b := hv.ep) rfl rfl (za (zb (.bool (decide (hv.ep < fo54.1.ep))) rfl ?_)))))))))))))))))
       by_cases h70 : hv.ep < fo54.1.ep
       ·
        refine zi (b' := true) 89 rfl (cT h70) rfl (zi (b' := true) 89 rfl (cT h70) rfl (zi (b' := true) 89 rfl (cT h70) rfl (zE 92 rfl rfl (zE 92 rfl rfl (zE 92 rfl rfl (zi (b' := true) 89 rfl (cT h70) rfl (za (zq (u := (.bool true)) ((rfl : _ = _).trans (cT h70)) rfl (zf (ze (hK69 _ _ (zP rfl rfl (yq fun K71 hK71 => (zd (za (zc (.bool true) rfl (zf ?_)))))))))))))))))
        refine ze (hK71 _ _ (wp_ret (zx (zZ (zx (zx (zZ (zx (zZ (zx (zx (zZ (zx (zr Tryz.results116  (v := (.bool true)) rfl ?_))))))))))))))
        have hH72 := (((hH63.front 4 rfl).front 3 rfl).front 3 rfl).first 3 rfl
        exact ⟨true, rfl, (fun g => by cases g), hH72⟩
       ·
        refine zo 89 rfl (cF h70) (zb (yi fi) e39_8 (zo 89 rfl (cF h70) (o_geq (a := fi) (b := 0) rfl rfl (zo 89 rfl (cF h70) (zb (.bool (decide (0 ≤ fi))) rfl ?_)))))
        by_cases h73 : 0 ≤ fi
        ·
         refine zo 92 rfl (cT h73) (zb (yi (a : Int)) e39_10 (zo 92 rfl (cT h73) (zb (yi en) e39_9 (zo 92 rfl (cT h73) (zL (a := (a : Int)) (b := en) rfl rfl (zo 89 rfl (cF h70) (zq (u := (.bool (decide ((a : Int) < en)))) ((rfl : _ = _).trans (cT h73)) rfl (za (zm (u := (.bool (decide ((a : Int) < en)))) ((rfl : _ = _).trans (cF h70)) rfl (zf (ze (hK69 _ _ (zt rfl (fun h74 => ?_) (fun h74 => ?_))))))))))))))
         ·
          refine yq fun K75 hK75 => (zd (za (zc (.bool true) rfl (zf (ze (hK75 _ _ (wp_ret (zx (zZ (zx (zx (zZ (zx (zZ (zx (zx (zZ (zx (zr Tryz.results116  (v := (.bool true)) rfl ?_)))))))))))))))))))
          have hH76 := (((hH63.front 4 rfl).front 3 rfl).front 3 rfl).first 3 rfl
          exact ⟨true, rfl, (fun g => by cases g), hH76⟩
         ·
          refine wp_skip (ze (hK68 _ _ (yq fun K77 hK77 => (yq fun K78 hK78 => (zd (za (zb (yi fi) e39_8 (za (zL (a := fi) (b := 0) rfl rfl (zf (ze (hK78 _ _ (zt rfl (fun h79 => ?_) (fun h79 => ?_))))))))))))))
          ·
           refine zd (za (zb (yi (a : Int)) e39_10 (za (zc (yi (a : Int)) rfl (zf (ze (hK77 _ _ (zd (za (zb (yi (a : Int)) e39_10 (za (zD (a := (a : Int)) (b := 25) rfl rfl (w64 (by omega) (by omega)) (za (zg (k := 3) (fun _ => by kernel_rfl) rfl (za (zj (v := (S fo54.1.data)) Tryz.underlying9 rfl rfl hH63 (zh 0 rfl) (CellsAt.one rfl) (za (z8 Tryz.underlying9 rfl (za (zD (a := (a : Int) + 25) (b := (fo54.1.data.length : Int)) rfl rfl (w64 (by omega) (by omega)) (za (zc (yi (((a : Int) + 25) + (fo54.1.data.length : Int))) rfl (zf (zC ?_))))))))))))))))))))))))
           refine ze (hK35 _ _ (zd (za (zb (yi (a : Int)) e39_10 (za (zD (a := (a : Int)) (b := 1) rfl rfl (w64 (by omega) (by omega)) (za (zc (yi ((a : Int) + 1)) rfl (zf ?_)))))))))
           have hH80 := ((((hH63.front 4 rfl).front 4 rfl).front 4 rfl).front 4 rfl).first 4 rfl
           refine ze ⟨rg.length - (a + 1), _, rfl, ?_, ?_⟩
           · omega
           · exact ⟨(a + 1), (a : Int), (((a : Int) + 25) + (fo54.1.data.length : Int)), rfl, hH80, (by omega), (⟨by omega, by omega⟩), (⟨by omega, by omega⟩), (hP.next (fun _ => by have k_ : fo54.1.ep = (oF (((rg ++ rg).take (a + rg.length)).drop a)).ep := congrArg (fun z_ : Fr × Bool => z_.1.ep) hfo55; omega)), e39_0, e39_3, e39_4, e39_5, e39_6, e39_7, rfl, rfl, rfl, e39_18⟩
          ·
           refine wp_skip (ze (hK77 _ _ (zd (za (zb (yi (a : Int)) e39_10 (za (zD (a := (a : Int)) (b := 25) rfl rfl (w64 (by omega) (by omega)) (za (zg (k := 3) (fun _ => by kernel_rfl) rfl (za (zj (v := (S fo54.1.data)) Tryz.underlying9 rfl rfl hH63 (zh 0 rfl) (CellsAt.one rfl) (za (z8 Tryz.underlying9 rfl (za (zD (a := (a : Int) + 25) (b := (fo54.1.data.length : Int)) rfl rfl (w64 (by omega) (by omega)) (za (zc (yi (((a : Int) + 25) + (fo54.1.data.length : Int))) rfl (zf (zC (ze (hK35 _ _ (zd (za (zb (yi (a : Int)) e39_10 ?_))))))))))))))))))))))))
           refine za (zD (a := (a : Int)) (b := 1) rfl rfl (w64 (by omega) (by omega)) (za (zc (yi ((a : Int) + 1)) rfl (zf ?_))))
           have hH81 := ((((hH63.front 4 rfl).front 4 rfl).front 4 rfl).front 4 rfl).first 4 rfl
           refine ze ⟨rg.length - (a + 1), _, rfl, ?_, ?_⟩
           · omega
           · exact ⟨(a + 1), fi, (((a : Int) + 25) + (fo54.1.data.length : Int)), rfl, hH81, (by omega), (⟨by omega, by omega⟩), (⟨by omega, by omega⟩), (hP.next (fun _ => by have k_ : fo54.1.ep = (oF (((rg ++ rg).take (a + rg.length)).drop a)).ep := congrArg (fun z_ : Fr × Bool => z_.1.ep) hfo55; omega)), e39_0, e39_3, e39_4, e39_5, e39_6, e39_7, e39_8, rfl, rfl, e39_18⟩
        ·
         refine zi (b' := false) 92 rfl (cF h73) rfl (zi (b' := false) 92 rfl (cF h73) rfl (zi (b' := false) 92 rfl (cF h73) rfl (zo 89 rfl (cF h70) (zm (u := (.bool false)) ((rfl : _ = _).trans (cF h73)) rfl (za (zm (u := (.bool false)) ((rfl : _ = _).trans (cF h70)) rfl (zf (ze (hK69 _ _ (zK rfl rfl (wp_skip (ze (hK68 _ _ (yq fun K82 hK82 => (yq fun K83 hK83 => (zd (za (zb (yi fi) e39_8 (za (zL (a := fi) (b := 0) rfl rfl ?_))))))))))))))))))))
         refine zf (ze (hK83 _ _ (zt rfl (fun h84 => ?_) (fun h84 => ?_))))
         ·
          refine zd (za (zb (yi (a : Int)) e39_10 (za (zc (yi (a : Int)) rfl (zf (ze (hK82 _ _ (zd (za (zb (yi (a : Int)) e39_10 (za (zD (a := (a : Int)) (b := 25) rfl rfl (w64 (by omega) (by omega)) (za (zg (k := 3) (fun _ => by kernel_rfl) rfl (za (zj (v := (S fo54.1.data)) Tryz.underlying9 rfl rfl hH63 (zh 0 rfl) (CellsAt.one rfl) (za (z8 Tryz.underlying9 rfl (za (zD (a := (a : Int) + 25) (b := (fo54.1.data.length : Int)) rfl rfl (w64 (by omega) (by omega)) (za (zc (yi (((a : Int) + 25) + (fo54.1.data.length : Int))) rfl (zf (zC ?_))))))))))))))))))))))))
          refine ze (hK35 _ _ (zd (za (zb (yi (a : Int)) e39_10 (za (zD (a := (a : Int)) (b := 1) rfl rfl (w64 (by omega) (by omega)) (za (zc (yi ((a : Int) + 1)) rfl (zf ?_)))))))))
          have hH85 := ((((hH63.front 4 rfl).front 4 rfl).front 4 rfl).front 4 rfl).first 4 rfl
          refine ze ⟨rg.length - (a + 1), _, rfl, ?_, ?_⟩
          · omega
          · exact ⟨(a + 1), (a : Int), (((a : Int) + 25) + (fo54.1.data.length : Int)), rfl, hH85, (by omega), (⟨by omega, by omega⟩), (⟨by omega, by omega⟩), (hP.next (fun _ => by have k_ : fo54.1.ep = (oF (((rg ++ rg).take (a + rg.length)).drop a)).ep := congrArg (fun z_ : Fr × Bool => z_.1.ep) hfo55; omega)), e39_0, e39_3, e39_4, e39_5, e39_6, e39_7, rfl, rfl, rfl, e39_18⟩
         ·
          refine wp_skip (ze (hK82 _ _ (zd (za (zb (yi (a : Int)) e39_10 (za (zD (a := (a : Int)) (b := 25) rfl rfl (w64 (by omega) (by omega)) (za (zg (k := 3) (fun _ => by kernel_rfl) rfl (za (zj (v := (S fo54.1.data)) Tryz.underlying9 rfl rfl hH63 (zh 0 rfl) (CellsAt.one rfl) (za (z8 Tryz.underlying9 rfl (za (zD (a := (a : Int) + 25) (b := (fo54.1.data.length : Int)) rfl rfl (w64 (by omega) (by omega)) (za (zc (yi (((a : Int) + 25) + (fo54.1.data.length : Int))) rfl (zf (zC (ze (hK35 _ _ (zd (za (zb (yi (a : Int)) e39_10 ?_))))))))))))))))))))))))
          refine za (zD (a := (a : Int)) (b := 1) rfl rfl (w64 (by omega) (by omega)) (za (zc (yi ((a : Int) + 1)) rfl (zf ?_))))
          have hH86 := ((((hH63.front 4 rfl).front 4 rfl).front 4 rfl).front 4 rfl).first 4 rfl
          refine ze ⟨rg.length - (a + 1), _, rfl, ?_, ?_⟩
          · omega
          · exact ⟨(a + 1), fi, (((a : Int) + 25) + (fo54.1.data.length : Int)), rfl, hH86, (by omega), (⟨by omega, by omega⟩), (⟨by omega, by omega⟩), (hP.next (fun _ => by have k_ : fo54.1.ep = (oF (((rg ++ rg).take (a + rg.length)).drop a)).ep := congrArg (fun z_ : Fr × Bool => z_.1.ep) hfo55; omega)), e39_0, e39_3, e39_4, e39_5, e39_6, e39_7, e39_8, rfl, rfl, e39_18⟩
   ·
    refine wp_exit (zy (zy (x_in ((ze (hK24 _ _ (yq fun K87 hK87 => (zd (za (zb (yi fi) e26_8 (za (o_geq (a := fi) (b := 0) rfl rfl (za (zb (.bool (decide (0 ≤ fi))) rfl ?_))))))))))))))
    by_cases h88 : 0 ≤ fi
    ·
     refine zo 109 rfl (cT h88) (zb (yi en) e26_9 (zo 109 rfl (cT h88) (zb (yi (rg.length : Int)) e26_7 (zo 109 rfl (cT h88) (o_sub (a := en) (b := (rg.length : Int)) rfl rfl (w64 (by omega) (by omega)) (zo 109 rfl (cT h88) (zb (yi fi) e26_8 (zo 109 rfl (cT h88) (o_gtr (a := en - (rg.length : Int)) (b := fi) rfl rfl (za (zq (u := (.bool (decide (fi < en - (rg.length : Int))))) ((rfl : _ = _).trans (cT h88)) rfl (zf (ze (hK87 _ _ (zt rfl (fun h89 => ?_) (fun h89 => ?_))))))))))))))))
     ·
      refine yq fun K90 hK90 => (zd (za (zc (.bool true) rfl (zf (ze (hK90 _ _ (wp_ret (zZ (zx (zx (zZ (zx (zr Tryz.results116  (v := (.bool true)) rfl ?_)))))))))))))
      have hH91 := (((hH29.front 3 rfl).front 2 rfl).front 2 rfl).first 3 rfl
      exact ⟨true, rfl, (fun g => by cases g), hH91⟩
     ·
      refine wp_skip (zC (ze (hK6 _ _ (zd (za (zb (yi 0) e26_3 (za (zD (a := 0) (b := 1) (c := 1) rfl rfl (by decide) (za (zc (yi 1) rfl (zf (ze (u_round (yq fun K92 hK92 => (yq fun K93 hK93 => (zd (za (zb (yi 1) rfl (za (zb vd e26_0 (za (zQ Tryz.underlying74 rfl hvd ?_))))))))))))))))))))))
      refine za (zL (a := 1) (b := 1) rfl rfl (zf (ze (hK93 _ _ (zK rfl rfl (wp_exit (zy (zy (x_in ((ze (hK2 _ _ (yq fun K94 hK94 => (zd (za (zc (.bool false) rfl (zf (ze (hK94 _ _ (wp_ret (zr Tryz.results116  (v := (.bool false)) rfl ?_)))))))))))))))))))))
      have hH95 := (((hH29.front 3 rfl).front 2 rfl).front 2 rfl).first 3 rfl
      exact ⟨false, rfl, (fun _ h0_ => absurd (hh2_.symm.trans h0_) h34), hH95⟩
    ·
     refine zi (b' := false) 109 rfl (cF h88) rfl (zi (b' := false) 109 rfl (cF h88) rfl (zi (b' := false) 109 rfl (cF h88) rfl (zi (b' := false) 109 rfl (cF h88) rfl (zi (b' := false) 109 rfl (cF h88) rfl (za (zm (u := (.bool false)) ((rfl : _ = _).trans (cF h88)) rfl (zf (ze (hK87 _ _ (zK rfl rfl (wp_skip (zC (ze (hK6 _ _ (zd (za (zb (yi 0) e26_3 (za (zD (a := 0) (b := 1) (c := 1) rfl rfl (by decide) ?_)))))))))))))))))))
     refine za (zc (yi 1) rfl (zf (ze (u_round (yq fun K96 hK96 => (yq fun K97 hK97 => (zd (za (zb (yi 1) rfl (za (zb vd e26_0 (za (zQ Tryz.underlying74 rfl hvd (za (zL (a := 1) (b := 1) rfl rfl (zf (ze (hK97 _ _ (zK rfl rfl (wp_exit (zy (zy (x_in (?_))))))))))))))))))))))))
     refine ze (hK2 _ _ (yq fun K98 hK98 => (zd (za (zc (.bool false) rfl (zf (ze (hK98 _ _ (wp_ret (zr Tryz.results116  (v := (.bool false)) rfl ?_))))))))))
     have hH99 := (((hH29.front 3 rfl).front 2 rfl).front 2 rfl).first 3 rfl
     exact ⟨false, rfl, (fun _ h0_ => absurd (hh2_.symm.trans h0_) h34), hH99⟩
  ·
   refine zi (b' := false) 48 rfl (cF h33) rfl (zi (b' := false) 48 rfl (cF h33) rfl (za (zm (u := (.bool false)) ((rfl : _ = _).trans (cF h33)) rfl (zf (ze (hK32 _ _ (zK rfl rfl (wp_exit (zy (zy (x_in ((ze (hK24 _ _ (yq fun K100 hK100 => (zd (za (zb (yi fi) e26_8 (za (o_geq (a := fi) (b := 0) rfl rfl (za (zb (.bool (decide (0 ≤ fi))) rfl ?_))))))))))))))))))))))
   by_cases h101 : 0 ≤ fi
   ·
    refine zo 109 rfl (cT h101) (zb (yi en) e26_9 (zo 109 rfl (cT h101) (zb (yi (rg.length : Int)) e26_7 (zo 109 rfl (cT h101) (o_sub (a := en) (b := (rg.length : Int)) rfl rfl (w64 (by omega) (by omega)) (zo 109 rfl (cT h101) (zb (yi fi) e26_8 (zo 109 rfl (cT h101) (o_gtr (a := en - (rg.length : Int)) (b := fi) rfl rfl (za (zq (u := (.bool (decide (fi < en - (rg.length : Int))))) ((rfl : _ = _).trans (cT h101)) rfl (zf (ze (hK100 _ _ (zt rfl (fun h102 => ?_) (fun h102 => ?_))))))))))))))))
    ·
     refine yq fun K103 hK103 => (zd (za (zc (.bool true) rfl (zf (ze (hK103 _ _ (wp_ret (zZ (zx (zx (zZ (zx (zr Tryz.results116  (v := (.bool true)) rfl ?_)))))))))))))
     have hH104 := (((hH29.front 3 rfl).front 2 rfl).front 2 rfl).first 3 rfl
     exact ⟨true, rfl, (fun g => by cases g), hH104⟩
    ·
     refine wp_skip (zC (ze (hK6 _ _ (zd (za (zb (yi 0) e26_3 (za (zD (a := 0) (b := 1) (c := 1) rfl rfl (by decide) (za (zc (yi 1) rfl (zf (ze (u_round (yq fun K105 hK105 => (yq fun K106 hK106 => (zd (za (zb (yi 1) rfl (za (zb vd e26_0 (za (zQ Tryz.underlying74 rfl hvd ?_))))))))))))))))))))))
     refine za (zL (a := 1) (b := 1) rfl rfl (zf (ze (hK106 _ _ (zK rfl rfl (wp_exit (zy (zy (x_in ((ze (hK2 _ _ (yq fun K107 hK107 => (zd (za (zc (.bool false) rfl (zf (ze (hK107 _ _ (wp_ret (zr Tryz.results116  (v := (.bool false)) rfl ?_)))))))))))))))))))))
     have hH108 := (((hH29.front 3 rfl).front 2 rfl).front 2 rfl).first 3 rfl
     have e_ : rg.length = a := by omega
     exact ⟨false, rfl, (fun _ _ => by rw [hh1_, ← hrg, e_]; exact hP), hH108⟩
   ·
    refine zi (b' := false) 109 rfl (cF h101) rfl (zi (b' := false) 109 rfl (cF h101) rfl (zi (b' := false) 109 rfl (cF h101) rfl (zi (b' := false) 109 rfl (cF h101) rfl (zi (b' := false) 109 rfl (cF h101) rfl (za (zm (u := (.bool false)) ((rfl : _ = _).trans (cF h101)) rfl (zf (ze (hK100 _ _ (zK rfl rfl (wp_skip (zC (ze (hK6 _ _ (zd (za (zb (yi 0) e26_3 (za (zD (a := 0) (b := 1) (c := 1) rfl rfl (by decide) ?_)))))))))))))))))))
    refine za (zc (yi 1) rfl (zf (ze (u_round (yq fun K109 hK109 => (yq fun K110 hK110 => (zd (za (zb (yi 1) rfl (za (zb vd e26_0 (za (zQ Tryz.underlying74 rfl hvd (za (zL (a := 1) (b := 1) rfl rfl (zf (ze (hK110 _ _ (zK rfl rfl (wp_exit (zy (zy (x_in (?_))))))))))))))))))))))))
    refine ze (hK2 _ _ (yq fun K111 hK111 => (zd (za (zc (.bool false) rfl (zf (ze (hK111 _ _ (wp_ret (zr Tryz.results116  (v := (.bool false)) rfl ?_))))))))))
    have hH112 := (((hH29.front 3 rfl).front 2 rfl).front 2 rfl).first 3 rfl
    have e_ : rg.length = a := by omega
    exact ⟨false, rfl, (fun _ _ => by rw [hh1_, ← hrg, e_]; exact hP), hH112⟩
 refine Rest.region mixed (by kernel_rfl) ?_
 have hH113 : Has E { w with drawn := w.drawn + 1 } [sg, (yP pb d.p), R] := Has0.drew hH _
 refine Rest.phaseA (fun w_ => Has E w_ [R]) 0 16 16 rfl (by decide) (by kernel_rfl) (zn 0 rfl (by kernel_rfl) (fun w_ h_ => zb vd rfl ⟨rfl, rfl⟩) (zn 1 rfl (by kernel_rfl) (fun w_ h_ => zb (yi 0) rfl ⟨rfl, rfl⟩) ?_))
 obtain ⟨b114, o115, hc116, ho117⟩ := ix_ex1 Tryz.underlying74 ti25 hvd (by omega) (show [db][((0 : Int)).toNat]? = some db from rfl)
 refine zn 2 rfl (by kernel_rfl) (fun w_ h_ => ho117 rfl rfl ⟨rfl, rfl⟩) (zn 3 rfl (by kernel_rfl) (fun w_ h_ => zj (v := (yp db)) Tryz.underlying25 rfl rfl h_ (zh 0 rfl) hc116 ⟨rfl, rfl⟩) (zn 5 rfl (by kernel_rfl) (fun w_ h_ => zb vd rfl ⟨rfl, rfl⟩) (zn 6 rfl (by kernel_rfl) (fun w_ h_ => zb (yi 0) rfl ⟨rfl, rfl⟩) ?_)))
 obtain ⟨b118, o119, hc120, ho121⟩ := ix_ex1 Tryz.underlying74 ti25 hvd (by omega) (show [db][((0 : Int)).toNat]? = some db from rfl)
 refine zn 7 rfl (by kernel_rfl) (fun w_ h_ => ho121 rfl rfl ⟨rfl, rfl⟩) (zn 8 rfl (by kernel_rfl) (fun w_ h_ => zj (v := (yp db)) Tryz.underlying25 rfl rfl h_ (zh 0 rfl) hc120 ⟨rfl, rfl⟩) ?_)
 have hH122 := (hH113.front 2 rfl).first 1 rfl
 refine a_two 4 14 (by kernel_rfl) hH122 ?_ ?_
 ·
  have hH123 : Has E { w with drawn := w.drawn + 1 } [R] := (hH113.front 2 rfl).first 1 rfl
  refine ok_w 4 rfl (zk (vs := #[(yp db), (yi 0)]) ca200 rfl (zF rfl rfl) (lasts_d (p := d.p) (la := d.la) (lo := d.lo) ((hH113.front 1 rfl).front 1 rfl).all2 hd 0) ?_)
  rintro _ w126 ⟨rfl, hX124⟩
  refine ⟨_, rfl, ?_⟩
  have hH125 : Has E w126 [sg, (yP pb d.p), R] := hX124.of_all2
  have hH127 := (hH125.front 2 rfl).first 1 rfl
  refine a_two 9 14 (by kernel_rfl) hH127 ?_ ?_
  ·
   have hH128 : Has E w126 [R] := (hH125.front 2 rfl).first 1 rfl
   refine ok_w 9 rfl (zk (vs := #[(yp db), (yi 1)]) ca200 rfl (zF rfl rfl) (lasts_d (p := d.p) (la := d.la) (lo := d.lo) ((hH125.front 1 rfl).front 1 rfl).all2 hd 1) ?_)
   rintro _ w131 ⟨rfl, hX129⟩
   refine ⟨_, rfl, ?_⟩
   have hH130 : Has E w131 [sg, (yP pb d.p), R] := hX129.of_all2
   have hH132 := (hH130.front 2 rfl).first 1 rfl
   refine a_two 10 14 (by kernel_rfl) hH132 ?_ ?_
   ·
    have hH133 : Has E w131 [R] := (hH130.front 2 rfl).first 1 rfl
    refine ok_w 10 rfl (zk (vs := #[(S (lastsS d.la 0)), (S (lastsS d.la 1))]) ca199 rfl (zF rfl rfl) (calls_name (fun x_ : Hd × Int => .tuple #[.agg (yH x_.1), .int .i64 x_.2]) (ldD (lastsS d.la 0) (lastsS d.la 1)) (r7load_c (s := (lastsS d.la 0)) (t := (lastsS d.la 1)) hH130.all (by omega) (by omega))) ?_)
    rintro _ w138 ⟨lh134, hlh135, rfl, hX136⟩
    refine ⟨_, rfl, ?_⟩
    have hH137 : Has E w138 [sg, (yP pb d.p), R] := hX136.of_all
    refine zn 11 rfl (by kernel_rfl) (fun w_ h_ => zb (.tuple #[(.agg (yH lh134.1)), (yi lh134.2)]) rfl ⟨rfl, rfl⟩) (zn 12 rfl (by kernel_rfl) (fun w_ h_ => zp (v := (.agg (yH lh134.1))) rfl rfl ⟨rfl, rfl⟩) (zn 13 rfl (by kernel_rfl) (fun w_ h_ => zp (v := (yi lh134.2)) rfl rfl ⟨rfl, rfl⟩) ?_))
    have hH139 := (hH137.front 2 rfl).first 1 rfl
    refine a_w 14 rfl (by kernel_rfl) hH139 (zU (cs := y0A) zT rfl hH137 fun b140 w141 hH142 => ?_)
    have hH143 := (hH142.front 3 rfl).first 1 rfl
    refine a_we 15 rfl (by kernel_rfl) hH143 (zv (vs := (yL lh134.1)) (c' := (yH lh134.1)) zT rfl rfl rfl rfl y5 (by simp) (by kernel_rfl) (hH142.front 0 rfl) fun w144 hH145 => ?_)
    have hH146 := (hH145.front 3 rfl).first 1 rfl
    refine zM (by kernel_rfl) hH146 (zO 16 rfl (by kernel_rfl) (zc (yi lh134.2) rfl (Rest.done (by kernel_rfl) (ze (hJ10 _ _ ⟨b140, lh134.1, lh134.2, hH145, (hlh135), rfl, rfl, rfl, rfl, rfl, rfl⟩)))))
   ·
    have hH147 : Has E w131 [R] := (hH130.front 2 rfl).first 1 rfl
    refine ok_w 14 rfl (zU (cs := y0A) zT rfl hH130 fun b148 w149 hH150 => ?_)
    have hH151 := (hH150.front 3 rfl).first 1 rfl
    refine a_w 10 rfl (by kernel_rfl) hH151 (zk (vs := #[(S (lastsS d.la 0)), (S (lastsS d.la 1))]) ca199 rfl (zF rfl rfl) (calls_name (fun x_ : Hd × Int => .tuple #[.agg (yH x_.1), .int .i64 x_.2]) (ldD (lastsS d.la 0) (lastsS d.la 1)) (r7load_c (s := (lastsS d.la 0)) (t := (lastsS d.la 1)) hH150.all (by omega) (by omega))) ?_)
    rintro _ w156 ⟨lh152, hlh153, rfl, hX154⟩
    refine ⟨_, rfl, ?_⟩
    have hH155 : Has E w156 [(yo b148 y0A 275), sg, (yP pb d.p), R] := hX154.of_all
    refine zn 11 rfl (by kernel_rfl) (fun w_ h_ => zb (.tuple #[(.agg (yH lh152.1)), (yi lh152.2)]) rfl ⟨rfl, rfl⟩) (zn 12 rfl (by kernel_rfl) (fun w_ h_ => zp (v := (.agg (yH lh152.1))) rfl rfl ⟨rfl, rfl⟩) (zn 13 rfl (by kernel_rfl) (fun w_ h_ => zp (v := (yi lh152.2)) rfl rfl ⟨rfl, rfl⟩) ?_))
    have hH157 := (hH155.front 3 rfl).first 1 rfl
    refine a_we 15 rfl (by kernel_rfl) hH157 (zv (vs := (yL lh152.1)) (c' := (yH lh152.1)) zT rfl rfl rfl rfl y5 (by simp) (by kernel_rfl) (hH155.front 0 rfl) fun w158 hH159 => ?_)
    have hH160 := (hH159.front 3 rfl).first 1 rfl
    refine zM (by kernel_rfl) hH160 (zO 16 rfl (by kernel_rfl) (zc (yi lh152.2) rfl (Rest.done (by kernel_rfl) (ze (hJ10 _ _ ⟨b148, lh152.1, lh152.2, hH159, (hlh153), rfl, rfl, rfl, rfl, rfl, rfl⟩)))))
  ·
   have hH161 : Has E w126 [R] := (hH125.front 2 rfl).first 1 rfl
   refine ok_w 14 rfl (zU (cs := y0A) zT rfl hH125 fun b162 w163 hH164 => ?_)
   have hH165 := (hH164.front 3 rfl).first 1 rfl
   refine a_w 9 rfl (by kernel_rfl) hH165 (zk (vs := #[(yp db), (yi 1)]) ca200 rfl (zF rfl rfl) (lasts_d (p := d.p) (la := d.la) (lo := d.lo) ((hH164.front 2 rfl).front 2 rfl).all2 hd 1) ?_)
   rintro _ w168 ⟨rfl, hX166⟩
   refine ⟨_, rfl, ?_⟩
   have hH167 : Has E w168 [sg, (yP pb d.p), (yo b162 y0A 275), R] := hX166.of_all2
   have hH169 := (hH167.front 3 rfl).first 1 rfl
   refine a_w 10 rfl (by kernel_rfl) hH169 (zk (vs := #[(S (lastsS d.la 0)), (S (lastsS d.la 1))]) ca199 rfl (zF rfl rfl) (calls_name (fun x_ : Hd × Int => .tuple #[.agg (yH x_.1), .int .i64 x_.2]) (ldD (lastsS d.la 0) (lastsS d.la 1)) (r7load_c (s := (lastsS d.la 0)) (t := (lastsS d.la 1)) hH167.all (by omega) (by omega))) ?_)
   rintro _ w174 ⟨lh170, hlh171, rfl, hX172⟩
   refine ⟨_, rfl, ?_⟩
   have hH173 : Has E w174 [sg, (yP pb d.p), (yo b162 y0A 275), R] := hX172.of_all
   refine zn 11 rfl (by kernel_rfl) (fun w_ h_ => zb (.tuple #[(.agg (yH lh170.1)), (yi lh170.2)]) rfl ⟨rfl, rfl⟩) (zn 12 rfl (by kernel_rfl) (fun w_ h_ => zp (v := (.agg (yH lh170.1))) rfl rfl ⟨rfl, rfl⟩) (zn 13 rfl (by kernel_rfl) (fun w_ h_ => zp (v := (yi lh170.2)) rfl rfl ⟨rfl, rfl⟩) ?_))
   have hH175 := (hH173.front 3 rfl).first 1 rfl
   refine a_we 15 rfl (by kernel_rfl) hH175 (zv (vs := (yL lh170.1)) (c' := (yH lh170.1)) zT rfl rfl rfl rfl y5 (by simp) (by kernel_rfl) (hH173.front 2 rfl) fun w176 hH177 => ?_)
   have hH178 := (hH177.front 3 rfl).first 1 rfl
   refine zM (by kernel_rfl) hH178 (zO 16 rfl (by kernel_rfl) (zc (yi lh170.2) rfl (Rest.done (by kernel_rfl) (ze (hJ10 _ _ ⟨b162, lh170.1, lh170.2, hH177, (hlh171), rfl, rfl, rfl, rfl, rfl, rfl⟩)))))
 ·
  have hH179 : Has E { w with drawn := w.drawn + 1 } [R] := (hH113.front 2 rfl).first 1 rfl
  refine ok_w 14 rfl (zU (cs := y0A) zT rfl hH113 fun b180 w181 hH182 => ?_)
  have hH183 := (hH182.front 3 rfl).first 1 rfl
  refine a_w 4 rfl (by kernel_rfl) hH183 (zk (vs := #[(yp db), (yi 0)]) ca200 rfl (zF rfl rfl) (lasts_d (p := d.p) (la := d.la) (lo := d.lo) ((hH182.front 2 rfl).front 2 rfl).all2 hd 0) ?_)
  rintro _ w186 ⟨rfl, hX184⟩
  refine ⟨_, rfl, ?_⟩
  have hH185 : Has E w186 [sg, (yP pb d.p), (yo b180 y0A 275), R] := hX184.of_all2
  have hH187 := (hH185.front 3 rfl).first 1 rfl
  refine a_w 9 rfl (by kernel_rfl) hH187 (zk (vs := #[(yp db), (yi 1)]) ca200 rfl (zF rfl rfl) (lasts_d (p := d.p) (la := d.la) (lo := d.lo) ((hH185.front 1 rfl).front 1 rfl).all2 hd 1) ?_)
  rintro _ w190 ⟨rfl, hX188⟩
  refine ⟨_, rfl, ?_⟩
  have hH189 : Has E w190 [sg, (yP pb d.p), (yo b180 y0A 275), R] := hX188.of_all2
  have hH191 := (hH189.front 3 rfl).first 1 rfl
  refine a_w 10 rfl (by kernel_rfl) hH191 (zk (vs := #[(S (lastsS d.la 0)), (S (lastsS d.la 1))]) ca199 rfl (zF rfl rfl) (calls_name (fun x_ : Hd × Int => .tuple #[.agg (yH x_.1), .int .i64 x_.2]) (ldD (lastsS d.la 0) (lastsS d.la 1)) (r7load_c (s := (lastsS d.la 0)) (t := (lastsS d.la 1)) hH189.all (by omega) (by omega))) ?_)
  rintro _ w196 ⟨lh192, hlh193, rfl, hX194⟩
  refine ⟨_, rfl, ?_⟩
  have hH195 : Has E w196 [sg, (yP pb d.p), (yo b180 y0A 275), R] := hX194.of_all
  refine zn 11 rfl (by kernel_rfl) (fun w_ h_ => zb (.tuple #[(.agg (yH lh192.1)), (yi lh192.2)]) rfl ⟨rfl, rfl⟩) (zn 12 rfl (by kernel_rfl) (fun w_ h_ => zp (v := (.agg (yH lh192.1))) rfl rfl ⟨rfl, rfl⟩) (zn 13 rfl (by kernel_rfl) (fun w_ h_ => zp (v := (yi lh192.2)) rfl rfl ⟨rfl, rfl⟩) ?_))
  have hH197 := (hH195.front 3 rfl).first 1 rfl
  refine a_we 15 rfl (by kernel_rfl) hH197 (zv (vs := (yL lh192.1)) (c' := (yH lh192.1)) zT rfl rfl rfl rfl y5 (by simp) (by kernel_rfl) (hH195.front 2 rfl) fun w198 hH199 => ?_)
  have hH200 := (hH199.front 3 rfl).first 1 rfl
  refine zM (by kernel_rfl) hH200 (zO 16 rfl (by kernel_rfl) (zc (yi lh192.2) rfl (Rest.done (by kernel_rfl) (ze (hJ10 _ _ ⟨b180, lh192.1, lh192.2, hH199, (hlh193), rfl, rfl, rfl, rfl, rfl, rfl⟩)))))
end Go.Q
namespace Go.Q
open Go.Proofs
set_option linter.unusedVariables false
set_option maxRecDepth 100000
attribute [local irreducible] wpList OK Code.wp
theorem look8_c {E w : World} {R sg : List Hp} {pb db : Nat} {d : Dv} (hH : Has E w [sg, (yP pb d.p), R]) (hd : DevAt pb sg db d.la d.lo) (h4 : d.la.length ≤ 4096) (h64 : Full64 d.la) (hlk : LoOk d.lo d.la.length) (h3 : 3 ≤ d.la.length) {vd : Value} (hvd : Sl R 1 vd [db].length ([db].map ptC)) :
  Calls Tryz.prog 25 #[vd] w fun e w' => ∃ va vb v1 v2 F O s1 s2 s3 s4, e = .returned (.agg #[va, vb]) ∧ Own 31 1 va [RowV.mk v1 F].length ([RowV.mk v1 F].map rvC) s1 ∧ Own 47 1 vb [RowV.mk v2 O].length ([RowV.mk v2 O].map rvC) s2 ∧ Own 44 4 v1 F.length (F.flatMap frC) s3 ∧ Own 3 1 v2 O.length (O.map iV) s4 ∧ FrsOk F ∧ Has E w' [s1, s2, s3, s4, sg, (yP pb d.p), R] := by
 refine zs (args := [vd]) Tryz.func25 rfl Tryz.ntmps25 (by simp) (yq fun K1 hK1 => (zd (za (zU (cs := #[(.slice none 0 0), (.slice none 0 0)]) ti61 rfl hH fun b2 w3 hH4 => (zf (ze (hK1 _ _ (yq fun K5 hK5 => (zd (za (zU (cs := #[(.slice none 0 0), (.slice none 0 0)]) ti61 rfl hH4 fun b6 w7 hH8 => (zf (ze (hK5 _ _ (yq fun K9 hK9 => (yq fun K10 hK10 => (zd (za (zc (yi 0) rfl ?_)))))))))))))))))))
 refine zf (ze (hK10 _ _ (wp_block (u_loop 3 (u_round (yq fun K11 hK11 => (yq fun K12 hK12 => (zd (za (zb (yi 0) rfl (za (zb vd rfl (za (zQ Tryz.underlying74 rfl hvd (za (zL (a := 0) (b := 1) rfl rfl (zf (ze (hK12 _ _ (zP rfl rfl (wp_skip ?_)))))))))))))))))))))
 refine ze (hK11 _ _ (yq fun K13 hK13 => (wp_block (yq fun K14 hK14 => (Rest.region mixed (by kernel_rfl) ?_)))))
 have hH15 : Has E { w7 with drawn := w7.drawn + 1 } [(yo b6 #[(.slice none 0 0), (.slice none 0 0)] 61), (yo b2 #[(.slice none 0 0), (.slice none 0 0)] 61), sg, (yP pb d.p), R] := Has0.drew hH8 _
 refine Rest.phaseA (fun w_ => Has E w_ [(yo b6 #[(.slice none 0 0), (.slice none 0 0)] 61), R]) 0 8 8 rfl (by decide) (by kernel_rfl) (zn 0 rfl (by kernel_rfl) (fun w_ h_ => zg (k := 0) (fun _ => by kernel_rfl) rfl ⟨rfl, rfl⟩) (zn 1 rfl (by kernel_rfl) (fun w_ h_ => zj (v := (.slice none 0 0)) Tryz.underlying58 rfl rfl h_ (zh 0 rfl) (CellsAt.one rfl) ⟨rfl, rfl⟩) (zn 2 rfl (by kernel_rfl) (fun w_ h_ => zb vd rfl ⟨rfl, rfl⟩) (zn 3 rfl (by kernel_rfl) (fun w_ h_ => zb (yi 0) rfl ⟨rfl, rfl⟩) ?_))))
 obtain ⟨b16, o17, hc18, ho19⟩ := ix_ex1 Tryz.underlying74 ti25 hvd (by omega) (show [db][((0 : Int)).toNat]? = some db from rfl)
 refine zn 4 rfl (by kernel_rfl) (fun w_ h_ => ho19 rfl rfl ⟨rfl, rfl⟩) (zn 5 rfl (by kernel_rfl) (fun w_ h_ => zj (v := (yp db)) Tryz.underlying25 rfl rfl h_ (zh 1 rfl) hc18 ⟨rfl, rfl⟩) ?_)
 have hH20 := ((hH15.front 4 rfl).front 1 rfl).first 2 rfl
 refine a_w 6 rfl (by kernel_rfl) hH20 (zk (vs := #[(yp db)]) ca111 rfl (zI rfl) (chain8_c (d := d) ((hH15.front 3 rfl).front 3 rfl).all2 hd h4 h64 h3) ?_)
 rintro _ w28 ⟨v21, F22, s23, rfl, ho24, hf25, hX26⟩
 refine ⟨_, rfl, ?_⟩
 have hH27 : Has E w28 [s23, sg, (yP pb d.p), (yo b6 #[(.slice none 0 0), (.slice none 0 0)] 61), (yo b2 #[(.slice none 0 0), (.slice none 0 0)] 61), R] := hX26.of_all3
 have hH29 := ((hH27.front 5 rfl).front 4 rfl).first 2 rfl
 refine a_w 7 rfl (by kernel_rfl) hH29 (zw (ps := #[(0, v21)]) (cells := #[v21]) Tryz.underlying58 ti31 (by decide) (yb rfl) (fill_one1 ho24.one rfl) hH27 fun b30 w31 hH32 => ?_)
 have hH33 := ((hH32.front 6 rfl).front 5 rfl).first 2 rfl
 refine zM (by kernel_rfl) hH33 (zO 8 rfl (by kernel_rfl) (o_append Tryz.underlying58 ti31 rfl (by decide) rfl (Own.nil 31 1) rfl (zW (f := rvC) (l := [(RowV.mk v21 F22)]) (g := (0, 0)) (T := 31) rfl rfl (by simp)) (Has.nil hH32) (zh 0 rfl) (sl_one1 (x := RowV.mk v21 F22) ho24.sl) (by simp) (by simp) fun v34 s35 w37 ho36 hH38 => ?_))
 have ho36 : Own 31 1 v34 [(RowV.mk v21 F22)].length ([(RowV.mk v21 F22)].map rvC) s35 := Own.app (a := []) ho36
 refine zO 9 rfl (by kernel_rfl) (zg (k := 0) (fun _ => by kernel_rfl) rfl (r_eff 10 rfl (by kernel_rfl) (zH (c' := #[v34, (.slice none 0 0)]) ti58 rfl rfl ho36.one (by simp) rfl (hH38.front 5 rfl) fun w39 hH40 => (Rest.done (by kernel_rfl) (ze (hK14 _ _ (Rest.region mixed (by kernel_rfl) ?_)))))))
 have hH41 : Has E { w39 with drawn := w39.drawn + 1 } [(yo b6 #[v34, (.slice none 0 0)] 61), s35, (yo b30 #[v21] 31), s23, sg, (yP pb d.p), (yo b2 #[(.slice none 0 0), (.slice none 0 0)] 61), R] := Has0.drew hH40 _
 refine Rest.phaseA (fun w_ => Has E w_ [(yo b6 #[v34, (.slice none 0 0)] 61), R]) 0 8 8 rfl (by decide) (by kernel_rfl) (zn 0 rfl (by kernel_rfl) (fun w_ h_ => zg (k := 1) (fun _ => by kernel_rfl) rfl ⟨rfl, rfl⟩) (zn 1 rfl (by kernel_rfl) (fun w_ h_ => zj (v := (.slice none 0 0)) Tryz.underlying59 rfl rfl h_ (zh 0 rfl) (CellsAt.one rfl) ⟨rfl, rfl⟩) (zn 2 rfl (by kernel_rfl) (fun w_ h_ => zb vd rfl ⟨rfl, rfl⟩) (zn 3 rfl (by kernel_rfl) (fun w_ h_ => zb (yi 0) rfl ⟨rfl, rfl⟩) ?_))))
 obtain ⟨b42, o43, hc44, ho45⟩ := ix_ex1 Tryz.underlying74 ti25 hvd (by omega) (show [db][((0 : Int)).toNat]? = some db from rfl)
 refine zn 4 rfl (by kernel_rfl) (fun w_ h_ => ho45 rfl rfl ⟨rfl, rfl⟩) (zn 5 rfl (by kernel_rfl) (fun w_ h_ => zj (v := (yp db)) Tryz.underlying25 rfl rfl h_ (zh 1 rfl) hc44 ⟨rfl, rfl⟩) ?_)
 have hH46 := ((hH41.front 7 rfl).front 1 rfl).first 2 rfl
 refine a_w 6 rfl (by kernel_rfl) hH46 (zk (vs := #[(yp db)]) ca112 rfl (zI rfl) (loose_d (p := d.p) (la := d.la) (lo := d.lo) ((hH41.front 5 rfl).front 5 rfl).all2 hd hlk h4) ?_)
 rintro _ w52 ⟨v47, s48, rfl, ho49, hX50⟩
 refine ⟨_, rfl, ?_⟩
 have hH51 : Has E w52 [s48, sg, (yP pb d.p), (yo b6 #[v34, (.slice none 0 0)] 61), s35, (yo b30 #[v21] 31), s23, (yo b2 #[(.slice none 0 0), (.slice none 0 0)] 61), R] := hX50.of_all3
 have hH53 := ((hH51.front 8 rfl).front 4 rfl).first 2 rfl
 refine a_w 7 rfl (by kernel_rfl) hH53 (zw (ps := #[(0, v47)]) (cells := #[v47]) Tryz.underlying59 ti47 (by decide) (yb rfl) (fill_one1 ho49.one rfl) hH51 fun b54 w55 hH56 => ?_)
 have hH57 := ((hH56.front 9 rfl).front 5 rfl).first 2 rfl
 refine zM (by kernel_rfl) hH57 (zO 8 rfl (by kernel_rfl) (o_append Tryz.underlying59 ti47 rfl (by decide) rfl (Own.nil 47 1) rfl (zW (f := rvC) (l := [(RowV.mk v47 (keysS d.lo))]) (g := (0, 0)) (T := 47) rfl rfl (by simp)) (Has.nil hH56) (zh 0 rfl) (sl_one1 (x := RowV.mk v47 (keysS d.lo)) ho49.sl) (by simp) (by simp) fun v58 s59 w61 ho60 hH62 => ?_))
 have ho60 : Own 47 1 v58 [(RowV.mk v47 (keysS d.lo))].length ([(RowV.mk v47 (keysS d.lo))].map rvC) s59 := Own.app (a := []) ho60
 refine zO 9 rfl (by kernel_rfl) (zg (k := 1) (fun _ => by kernel_rfl) rfl (r_eff 10 rfl (by kernel_rfl) (zH (c' := #[v34, v58]) ti59 rfl rfl ho60.one (by simp) rfl (hH62.front 5 rfl) fun w63 hH64 => (Rest.done (by kernel_rfl) (zC (ze (hK13 _ _ (zd (za (zb (yi 0) rfl (za (zD (a := 0) (b := 1) (c := 1) rfl rfl (by decide) (za (zc (yi 1) rfl (zf (ze (u_round (yq fun K65 hK65 => (yq fun K66 hK66 => (zd (za (zb (yi 1) rfl ?_))))))))))))))))))))))
 refine za (zb vd rfl (za (zQ Tryz.underlying74 rfl hvd (za (zL (a := 1) (b := 1) rfl rfl (zf (ze (hK66 _ _ (zK rfl rfl (wp_exit (zy (zy (x_in ((ze (hK9 _ _ (yq fun K67 hK67 => (zd (za (zG (cs := [v34, v58]) Tryz.underlying61 rfl ti61 rfl hH64 (zh 0 rfl) (CellsAt.one rfl) (zB (zv (vs := [v34, v58]) (c' := #[v34, v58]) ti61 rfl rfl rfl rfl (by intro u hu; simp only [List.mem_cons, List.not_mem_nil, or_false] at hu; rcases hu with rfl | rfl <;> first | rfl | exact ho36.one | exact ho60.one) (by simp) (by kernel_rfl) (hH64.front 9 rfl) fun w68 hH69 => (zf (ze (hK67 _ _ ?_)))))))))))))))))))))))))
 refine wp_ret (c_retC1 Tryz.results25 rfl (zu (cs := [v34, v58]) Tryz.underlying61 rfl ti61 hH69 (zh 0 rfl) (CellsAt.one rfl)) ?_)
 have hH70 : Has E w68 [s35, s59, s23, s48, sg, (yP pb d.p), R] := Has.pick hH69 [7, 2, 7, 3, 3, 3, 4] (by kernel_rfl)
 exact ⟨_, _, _, _, _, _, _, _, _, _, rfl, ho36, ho60, ho24, ho49, hf25, hH70⟩
end Go.Q
namespace Go.Q
open Go.Proofs
set_option linter.unusedVariables false
set_option maxRecDepth 100000
def eqv44 (a0 : Int) (a1 : Int) (a2 : Int) (a3 : List UInt8) (b0 : Int) (b1 : Int) (b2 : Int) (b3 : List UInt8) : Bool := (decide (a0 = b0) && (decide (a1 = b1) && (decide (a2 = b2) && (decide (a3 = b3) && true))))
theorem eqT44 (d : Nat) (w : World) (a0 : Int) (a1 : Int) (a2 : Int) (a3 : List UInt8) (b0 : Int) (b1 : Int) (b2 : Int) (b3 : List UInt8) : (Op.equalIn (d + 2) 44 (.agg #[(.int .i64 a0), (.int .i64 a1), (.int .i64 a2), (S a3)]) (.agg #[(.int .i64 b0), (.int .i64 b1), (.int .i64 b2), (S b3)])).run Tryz.prog w = .ok (eqv44 a0 a1 a2 a3 b0 b1 b2 b3) w := by
 rw [run_equalIn_struct w _ 44 _ _ (by kernel_rfl) (by kernel_rfl)]
 refine eqC_fields (m := [(3, 0, false), (3, 1, false), (3, 2, false), (9, 3, false)]) (by kernel_rfl) fun l hl => ?_
 obtain ⟨f0, l0, rfl, h0, hl⟩ := List.map_eq_cons_iff.1 hl
 refine eqC_cons (ft := 3) (fo := 0) (a := (.int .i64 a0)) (b := (.int .i64 b0)) h0 (part1 Tryz.underlying3 rfl (by kernel_rfl) w) (part1 Tryz.underlying3 rfl (by kernel_rfl) w) (eq_int Tryz.underlying3 (d + 0) _ _ _ w) ?_
 obtain ⟨f1, l1, rfl, h1, hl⟩ := List.map_eq_cons_iff.1 hl
 refine eqC_cons (ft := 3) (fo := 1) (a := (.int .i64 a1)) (b := (.int .i64 b1)) h1 (part1 Tryz.underlying3 rfl (by kernel_rfl) w) (part1 Tryz.underlying3 rfl (by kernel_rfl) w) (eq_int Tryz.underlying3 (d + 0) _ _ _ w) ?_
 obtain ⟨f2, l2, rfl, h2, hl⟩ := List.map_eq_cons_iff.1 hl
 refine eqC_cons (ft := 3) (fo := 2) (a := (.int .i64 a2)) (b := (.int .i64 b2)) h2 (part1 Tryz.underlying3 rfl (by kernel_rfl) w) (part1 Tryz.underlying3 rfl (by kernel_rfl) w) (eq_int Tryz.underlying3 (d + 0) _ _ _ w) ?_
 obtain ⟨f3, l3, rfl, h3, hl⟩ := List.map_eq_cons_iff.1 hl
 refine eqC_cons (ft := 9) (fo := 3) (a := (S a3)) (b := (S b3)) h3 (part1 Tryz.underlying9 rfl (by kernel_rfl) w) (part1 Tryz.underlying9 rfl (by kernel_rfl) w) (eq_str Tryz.underlying9 (d + 0) _ _ w) ?_
 obtain rfl := List.map_eq_nil_iff.1 hl
 exact eqC_nil
theorem o_eql44 {ρ : Operand → Value} {w : World} {K : Value → World → Prop} {dst : Option Tmp} {T : TypeId} {pos : String} {after : Array Edge} {g : Option (Nat × Bool)} {u : TypeId} {x y : Operand} (a0 : Int) (a1 : Int) (a2 : Int) (a3 : List UInt8) (b0 : Int) (b1 : Int) (b2 : Int) (b3 : List UInt8) (hx : ρ x = .agg #[(.int .i64 a0), (.int .i64 a1), (.int .i64 a2), (S a3)]) (hy : ρ y = .agg #[(.int .i64 b0), (.int .i64 b1), (.int .i64 b2), (S b3)]) (h : K (.bool ((eqv44 a0 a1 a2 a3 b0 b1 b2 b3))) w) :
  OK Tryz.prog ⟨dst, .binOp .eql 44 x y u, T, pos, after, g⟩ ρ w K :=
 o_eqx hx hy (run_eqGuard_agg w _ _ _ _ _ _ (by kernel_rfl)) rfl (eqT44 (9998) w a0 a1 a2 a3 b0 b1 b2 b3) h
end Go.Q
namespace Go.Q
open Go.Proofs
set_option linter.unusedVariables false
set_option maxRecDepth 100000
attribute [local irreducible] wpList OK Code.wp
theorem odd8_c {E w : World} {R sg : List Hp} {pb db : Nat} {d : Dv} (hH : Has E w [sg, (yP pb d.p), R]) (hd : DevAt pb sg db d.la d.lo) (h4 : d.la.length ≤ 4096) (h64 : Full64 d.la) (h3 : 3 ≤ d.la.length) {vd : Value} (hvd : Sl R 1 vd [db].length ([db].map ptC)) {va vb vk v1 v2 v3 : Value} {F1 : List Fr} {O1 keep : List Int} (hva : Sl R 1 va [RowV.mk v1 F1].length ([RowV.mk v1 F1].map rvC)) (hvb : Sl R 1 vb [RowV.mk v2 O1].length ([RowV.mk v2 O1].map rvC)) (hv1 : Sl R 4 v1 F1.length (F1.flatMap frC)) (hv2 : Ints R v2 O1) (hvk : Sl R 1 vk [RowV.mk v3 keep].length ([RowV.mk v3 keep].map rvC)) (hv3 : Ints R v3 keep) :
  Calls Tryz.prog 27 #[(.agg #[va, vb]), vk, vd] w fun e w' => ∃ b, e = .returned (.bool b) ∧ (b = false → PstD d.la) ∧ Has E w' [sg, (yP pb d.p), R] := by
 have hn1_ := hv1.le
 have hn2_ := hv2.le
 have hn3_ := hv3.le
 refine zs (args := [(.agg #[va, vb]), vk, vd]) Tryz.func27 rfl Tryz.ntmps27 (by simp) (yq fun K1 hK1 => (zd (za (o_box (cs := #[va, vb]) rfl rfl hH fun b2 w3 hH4 => (za (zc (.bool false) rfl (zf (ze (hK1 _ _ (yq fun K5 hK5 => (yq fun K6 hK6 => (zd (za (zc (yi 0) rfl (zf (ze (hK6 _ _ (wp_block (u_loop 3 (u_round ?_))))))))))))))))))))
 refine yq fun K7 hK7 => (yq fun K8 hK8 => (zd (za (zb (yi 0) rfl (za (zb vd rfl (za (zQ Tryz.underlying74 rfl hvd (za (zL (a := 0) (b := 1) rfl rfl (zf (ze (hK8 _ _ (zP rfl rfl (wp_skip (ze (hK7 _ _ (yq fun K9 hK9 => (wp_block (yq fun K10 hK10 => ?_))))))))))))))))))))
 refine zd (za (zc (.slice none 0 0) rfl (zf (ze (hK10 _ _ (yq fun K11 hK11 => (yq fun K12 hK12 => (zd (za (zb (yi 0) rfl (za (zb vk rfl (za (zQ Tryz.underlying59 rfl hvk (za (zL (a := 0) (b := 1) rfl rfl (zf (ze (hK12 _ _ (zP rfl rfl (zd ?_)))))))))))))))))))))
 refine za (zb vk rfl (za (zb (yi 0) rfl (za (z6 Tryz.underlying59 ti47 rfl hvk rfl (by omega) (show [(RowV.mk v3 keep)][((0 : Int)).toNat]? = some (RowV.mk v3 keep) from rfl) fun b13 o14 hc15 => (za (zj (v := v3) Tryz.underlying47 rfl rfl hH4 (zh 3 rfl) hc15 (za (zc v3 rfl (zf (ze (hK11 _ _ (yq fun K16 hK16 => (zd (za (zb vd rfl (za (zb (yi 0) rfl (za (z6 Tryz.underlying74 ti25 rfl hvd rfl (by omega) (show [db][((0 : Int)).toNat]? = some db from rfl) fun b17 o18 hc19 => (za (zj (v := (yp db)) Tryz.underlying25 rfl rfl hH4 (zh 3 rfl) hc19 (za (zk (vs := #[(yp db)]) ca111 rfl (zI rfl) (chain8_c (d := d) ((hH4.front 2 rfl).front 2 rfl).all2 hd h4 h64 h3) ?_))))))))))))))))))))))))
 rintro _ w27 ⟨v20, F21, s22, rfl, ho23, hf24, hX25⟩
 refine ⟨_, rfl, ?_⟩
 have hH26 : Has E w27 [s22, sg, (yP pb d.p), (yo b2 #[va, vb] 61), R] := hX25.of_all3
 refine za (zc v20 rfl (zf (ze (hK16 _ _ (yq fun K28 hK28 => (zd (za (zb vd rfl (za (zb (yi 0) rfl (za (z6 Tryz.underlying74 ti25 rfl hvd rfl (by omega) (show [db][((0 : Int)).toNat]? = some db from rfl) fun b29 o30 hc31 => (za (zj (v := (yp db)) Tryz.underlying25 rfl rfl hH26 (zh 4 rfl) hc31 (za (zk (vs := #[(yp db)]) ca85 rfl (zI rfl) (sectors_d (p := d.p) (la := d.la) (lo := d.lo) ((hH26.front 2 rfl).front 2 rfl).all2 hd ) ?_))))))))))))))))
 rintro _ w34 ⟨rfl, hX32⟩
 refine ⟨_, rfl, ?_⟩
 have hH33 := hX32.of_all2
 refine za (o_sub (a := ((d.la.length : Nat) : Int)) (b := 2) rfl rfl (w64 (by omega) (by omega)) (za (o_mul (a := 64) (b := ((d.la.length : Nat) : Int) - 2) rfl rfl (w64 (by omega) (by omega)) (za (zc (yi (64 * (((d.la.length : Nat) : Int) - 2))) rfl (zf (ze (hK28 _ _ (yq fun K35 hK35 => (zd (za (zc (yi 0) rfl (zf (ze (hK35 _ _ (wp_block ?_))))))))))))))))
 have hfl_ := ho23.sl.le4
 let I37 : Nat → (Nat → Value) → World → Prop := fun n__ r__ w__ => ∃ (k : Nat), n__ = F21.length - k ∧ Has E w__ [sg, (yP pb d.p), s22, (yo b2 #[va, vb] 61), R] ∧ (k ≤ F21.length) ∧ r__ 0 = (.agg #[va, vb]) ∧ r__ 1 = vk ∧ r__ 2 = vd ∧ r__ 3 = (yp b2) ∧ r__ 7 = (yi 0) ∧ r__ 8 = v3 ∧ r__ 9 = v20 ∧ r__ 10 = (yi (64 * (((d.la.length : Nat) : Int) - 2))) ∧ r__ 11 = (yi (k : Int)) ∧ r__ 19 = (.bool true) ∧ r__ 25 = (.bool true)
 refine zX I37 _ ⟨0, rfl, hH33, Nat.zero_le _, rfl, rfl, rfl, rfl, rfl, rfl, rfl, rfl, rfl, rfl, rfl⟩ ?_
 rintro n_ r40 w38 ⟨k, rfl, hH39, hk, e36_0, e36_1, e36_2, e36_3, e36_7, e36_8, e36_9, e36_10, e36_11, e36_19, e36_25⟩
 refine yq fun K41 hK41 => (yq fun K42 hK42 => (zd (za (zb (yi (k : Int)) e36_11 (za (zb v20 e36_9 (za (zQ Tryz.underlying31 rfl ho23.sl (za (zL (a := (k : Int)) (b := ((F21.length : Nat) : Int)) rfl rfl (zf (ze (hK42 _ _ (zt rfl (fun h43 => ?_) (fun h43 => ?_)))))))))))))))
 ·
  refine wp_skip (ze (hK41 _ _ (yq fun K44 hK44 => (wp_block (yq fun K45 hK45 => (zd (za (zc (.bool false) rfl (zf (ze (hK45 _ _ (yq fun K46 hK46 => (yq fun K47 hK47 => (zd (za (zc (yi 0) rfl (zf (ze (hK47 _ _ ?_)))))))))))))))))))
  refine wp_block ?_
  let I49 : Nat → (Nat → Value) → World → Prop := fun n__ r__ w__ => ∃ (j : Nat) (old : Bool), n__ = F1.length - j ∧ Has E w__ [sg, (yP pb d.p), s22, (yo b2 #[va, vb] 61), R] ∧ (j ≤ F1.length) ∧ r__ 0 = (.agg #[va, vb]) ∧ r__ 1 = vk ∧ r__ 2 = vd ∧ r__ 3 = (yp b2) ∧ r__ 7 = (yi 0) ∧ r__ 8 = v3 ∧ r__ 9 = v20 ∧ r__ 10 = (yi (64 * (((d.la.length : Nat) : Int) - 2))) ∧ r__ 11 = (yi (k : Int)) ∧ r__ 12 = (.bool old) ∧ r__ 13 = (yi (j : Int)) ∧ r__ 19 = (.bool true) ∧ r__ 25 = (.bool true) ∧ r__ 45 = (.bool (decide ((k : Int) < ((F21.length : Nat) : Int))))
  refine zX I49 _ ⟨0, false, rfl, hH39, Nat.zero_le _, e36_0, e36_1, e36_2, e36_3, e36_7, e36_8, e36_9, e36_10, e36_11, rfl, rfl, e36_19, e36_25, rfl⟩ ?_
  rintro n_ r52 w50 ⟨j, old, rfl, hH51, hj, e48_0, e48_1, e48_2, e48_3, e48_7, e48_8, e48_9, e48_10, e48_11, e48_12, e48_13, e48_19, e48_25, e48_45⟩
  refine yq fun K53 hK53 => (yq fun K54 hK54 => (zd (za (zb (yi (j : Int)) e48_13 (za (zg (k := 0) (fun _ => by kernel_rfl) e48_3 (za (zj (v := va) Tryz.underlying58 rfl rfl hH51 (zh 3 rfl) (CellsAt.one rfl) (za (zb (yi 0) e48_7 (za (z6 Tryz.underlying58 ti31 rfl hva rfl (by omega) (show [(RowV.mk v1 F1)][((0 : Int)).toNat]? = some (RowV.mk v1 F1) from rfl) fun b55 o56 hc57 => (za (zj (v := v1) Tryz.underlying31 rfl rfl hH51 (zh 4 rfl) hc57 (za (zQ Tryz.underlying31 rfl hv1 (za (zL (a := (j : Int)) (b := ((F1.length : Nat) : Int)) rfl rfl (zf (ze (hK54 _ _ (zt rfl (fun h58 => ?_) (fun h58 => ?_)))))))))))))))))))))))
  ·
   refine wp_skip (ze (hK53 _ _ (yq fun K59 hK59 => (wp_block (Rest.region mixed (by kernel_rfl) ?_)))))
   have hH60 : Has E { w50 with drawn := w50.drawn + 1 } [sg, (yP pb d.p), s22, (yo b2 #[va, vb] 61), R] := Has0.drew hH51 _
   refine zO 0 rfl (by kernel_rfl) (zb (.bool old) e48_12 (zO 1 rfl (by kernel_rfl) (zb (.bool old) rfl (Rest.phaseA (fun w_ => Has E w_ [s22, (yo b2 #[va, vb] 61), R]) 2 14 12 rfl (by decide) (by kernel_rfl) ?_))))
   rcases Bool.eq_false_or_eq_true old with h61 | h61
   ·
    refine yd (b' := true) 2 rfl (by kernel_rfl) 59 rfl (congrArg Value.bool h61) rfl (yd (b' := true) 3 rfl (by kernel_rfl) 59 rfl (congrArg Value.bool h61) rfl (yd (b' := true) 4 rfl (by kernel_rfl) 59 rfl (congrArg Value.bool h61) rfl (yd (b' := true) 5 rfl (by kernel_rfl) 59 rfl (congrArg Value.bool h61) rfl (yd (b' := true) 6 rfl (by kernel_rfl) 59 rfl (congrArg Value.bool h61) rfl (yd (b' := true) 7 rfl (by kernel_rfl) 59 rfl (congrArg Value.bool h61) rfl (yd (b' := true) 8 rfl (by kernel_rfl) 59 rfl (congrArg Value.bool h61) rfl (yd (b' := true) 9 rfl (by kernel_rfl) 59 rfl (congrArg Value.bool h61) rfl (yd (b' := true) 10 rfl (by kernel_rfl) 59 rfl (congrArg Value.bool h61) rfl (yd (b' := true) 11 rfl (by kernel_rfl) 59 rfl (congrArg Value.bool h61) rfl (yd (b' := true) 12 rfl (by kernel_rfl) 59 rfl (congrArg Value.bool h61) rfl (yd (b' := true) 13 rfl (by kernel_rfl) 59 rfl (congrArg Value.bool h61) rfl ?_)))))))))))
    have hH62 := (((hH60.front 4 rfl).front 4 rfl).front 4 rfl).first 3 rfl
    refine zM (by kernel_rfl) hH62 (r_off (b' := true) 14 rfl (by kernel_rfl) 59 rfl (congrArg Value.bool h61) rfl (zO 15 rfl (by kernel_rfl) (zq (u := (.bool true)) ((rfl : _ = _).trans (congrArg Value.bool h61)) rfl (zO 16 rfl (by kernel_rfl) (zc (.bool true) rfl (Rest.done (by kernel_rfl) (zC (ze (hK59 _ _ (zd (za (zb (yi (j : Int)) e48_13 (za (zD (a := (j : Int)) (b := 1) rfl rfl (w64 (by omega) (by omega)) (za (zc (yi ((j : Int) + 1)) rfl (zf (ze ⟨F1.length - (j + 1), _, rfl, ?_, ?_⟩))))))))))))))))))
    · omega
    · exact ⟨(j + 1), true, rfl, hH60, (by omega), e48_0, e48_1, e48_2, e48_3, e48_7, e48_8, e48_9, e48_10, e48_11, rfl, rfl, e48_19, e48_25, e48_45⟩
   ·
    refine a_on 2 rfl (by kernel_rfl) 59 rfl (congrArg Value.bool h61) (fun w_ h_ => zg (k := 0) (fun _ => by kernel_rfl) e48_3 ⟨rfl, rfl⟩) (a_on 3 rfl (by kernel_rfl) 59 rfl (congrArg Value.bool h61) (fun w_ h_ => zj (v := va) Tryz.underlying58 rfl rfl h_ (zh 1 rfl) (CellsAt.one rfl) ⟨rfl, rfl⟩) (a_on 4 rfl (by kernel_rfl) 59 rfl (congrArg Value.bool h61) (fun w_ h_ => zb (yi 0) e48_7 ⟨rfl, rfl⟩) ?_))
    obtain ⟨b63, o64, hc65, ho66⟩ := ix_ex1 Tryz.underlying58 ti31 hva (by omega) (show [(RowV.mk v1 F1)][((0 : Int)).toNat]? = some (RowV.mk v1 F1) from rfl)
    refine a_on 5 rfl (by kernel_rfl) 59 rfl (congrArg Value.bool h61) (fun w_ h_ => ho66 rfl rfl ⟨rfl, rfl⟩) (a_on 6 rfl (by kernel_rfl) 59 rfl (congrArg Value.bool h61) (fun w_ h_ => zj (v := v1) Tryz.underlying31 rfl rfl h_ (zh 2 rfl) hc65 ⟨rfl, rfl⟩) (a_on 7 rfl (by kernel_rfl) 59 rfl (congrArg Value.bool h61) (fun w_ h_ => zb (yi (j : Int)) e48_13 ⟨rfl, rfl⟩) ?_))
    obtain ⟨x70, hx71⟩ : ∃ x_, F1[((j : Int)).toNat]? = some x_ := zN (by omega)
    obtain ⟨b67, o68, hc69, ho72⟩ := ix_exF frC_len Tryz.underlying31 ti44 hv1 (by omega) hx71
    refine a_on 8 rfl (by kernel_rfl) 59 rfl (congrArg Value.bool h61) (fun w_ h_ => ho72 rfl rfl ⟨rfl, rfl⟩) (a_on 9 rfl (by kernel_rfl) 59 rfl (congrArg Value.bool h61) (fun w_ h_ => zG (cs := [(yi x70.ep), (yi x70.pl), (yi x70.gsn), (S x70.data)]) Tryz.underlying44 rfl ti44 rfl h_ (zh 2 rfl) hc69 ⟨rfl, rfl⟩) (a_on 10 rfl (by kernel_rfl) 59 rfl (congrArg Value.bool h61) (fun w_ h_ => zb v20 e48_9 ⟨rfl, rfl⟩) (a_on 11 rfl (by kernel_rfl) 59 rfl (congrArg Value.bool h61) (fun w_ h_ => zb (yi (k : Int)) e48_11 ⟨rfl, rfl⟩) ?_)))
    obtain ⟨x76, hx77⟩ : ∃ x_, F21[((k : Int)).toNat]? = some x_ := zN (by omega)
    obtain ⟨b73, o74, hc75, ho78⟩ := ix_exF frC_len Tryz.underlying31 ti44 ho23.sl (by omega) hx77
    refine a_on 12 rfl (by kernel_rfl) 59 rfl (congrArg Value.bool h61) (fun w_ h_ => ho78 rfl rfl ⟨rfl, rfl⟩) (a_on 13 rfl (by kernel_rfl) 59 rfl (congrArg Value.bool h61) (fun w_ h_ => zG (cs := [(yi x76.ep), (yi x76.pl), (yi x76.gsn), (S x76.data)]) Tryz.underlying44 rfl ti44 rfl h_ (zh 0 rfl) hc75 ⟨rfl, rfl⟩) ?_)
    have hH79 := (((hH60.front 4 rfl).front 4 rfl).front 4 rfl).first 3 rfl
    refine zM (by kernel_rfl) hH79 (r_on 14 rfl (by kernel_rfl) 59 rfl (congrArg Value.bool h61) (o_eql44 x70.ep x70.pl x70.gsn x70.data x76.ep x76.pl x76.gsn x76.data rfl rfl (zO 15 rfl (by kernel_rfl) (zm (u := (.bool (eqv44 x70.ep x70.pl x70.gsn x70.data x76.ep x76.pl x76.gsn x76.data))) ((rfl : _ = _).trans (congrArg Value.bool h61)) rfl (zO 16 rfl (by kernel_rfl) (zc (.bool (eqv44 x70.ep x70.pl x70.gsn x70.data x76.ep x76.pl x76.gsn x76.data)) rfl (Rest.done (by kernel_rfl) (zC (ze (hK59 _ _ (zd (za (zb (yi (j : Int)) e48_13 (za (zD (a := (j : Int)) (b := 1) rfl rfl (w64 (by omega) (by omega)) (za (zc (yi ((j : Int) + 1)) rfl (zf (ze ⟨F1.length - (j + 1), _, rfl, ?_, ?_⟩)))))))))))))))))))
    · omega
    · exact ⟨(j + 1), (eqv44 x70.ep x70.pl x70.gsn x70.data x76.ep x76.pl x76.gsn x76.data), rfl, hH60, (by omega), e48_0, e48_1, e48_2, e48_3, e48_7, e48_8, e48_9, e48_10, e48_11, rfl, rfl, e48_19, e48_25, e48_45⟩
  ·
   refine wp_exit (zy (zy (x_in ((ze (hK46 _ _ (yq fun K80 hK80 => (zd (za (zb v20 e48_9 (za (zb (yi (k : Int)) e48_11 ?_))))))))))))
   obtain ⟨x84, hx85⟩ : ∃ x_, F21[((k : Int)).toNat]? = some x_ := zN (by omega)
   refine za (o_indexF frC_len Tryz.underlying31 ti44 rfl ho23.sl rfl rfl (by omega) hx85 fun b81 o82 hc83 => (za (zg (k := o82 + 1) (fun _ => by kernel_rfl) rfl (za (zj (v := (yi x84.pl)) Tryz.underlying3 rfl rfl hH51 (zh 2 rfl) (CellsAt.field (k := 1) (ds := [(yi x84.pl)]) hc83 rfl) (za (zc (yi x84.pl) rfl (zf (ze (hK80 _ _ (wp_block ?_)))))))))))
   obtain ⟨hr1_, hr2_, hr3_, hr4_, hr5_, hr6_, hr7_⟩ := rightS_of (hf24 x84 (List.mem_of_getElem? hx85))
   let I87 : Nat → (Nat → Value) → World → Prop := fun n__ r__ w__ => ∃ (at_ : Int), n__ = (x84.pl + 25 + (x84.data.length : Int) - at_).toNat ∧ Has E w__ [sg, (yP pb d.p), s22, (yo b2 #[va, vb] 61), R] ∧ (x84.pl ≤ at_ ∧ at_ ≤ x84.pl + 25 + (x84.data.length : Int)) ∧ r__ 0 = (.agg #[va, vb]) ∧ r__ 1 = vk ∧ r__ 2 = vd ∧ r__ 3 = (yp b2) ∧ r__ 7 = (yi 0) ∧ r__ 8 = v3 ∧ r__ 9 = v20 ∧ r__ 10 = (yi (64 * (((d.la.length : Nat) : Int) - 2))) ∧ r__ 11 = (yi (k : Int)) ∧ r__ 12 = (.bool old) ∧ r__ 13 = (yi (j : Int)) ∧ r__ 14 = (yi at_) ∧ r__ 19 = (.bool true) ∧ r__ 25 = (.bool true) ∧ r__ 45 = (.bool (decide ((k : Int) < ((F21.length : Nat) : Int)))) ∧ r__ 55 = (.bool (decide ((j : Int) < ((F1.length : Nat) : Int))))
   refine zX I87 _ ⟨x84.pl, rfl, hH51, ⟨by omega, by omega⟩, e48_0, e48_1, e48_2, e48_3, e48_7, e48_8, e48_9, e48_10, e48_11, e48_12, e48_13, rfl, e48_19, e48_25, e48_45, rfl⟩ ?_
   rintro n_ r90 w88 ⟨at_, rfl, hH89, hat, e86_0, e86_1, e86_2, e86_3, e86_7, e86_8, e86_9, e86_10, e86_11, e86_12, e86_13, e86_14, e86_19, e86_25, e86_45, e86_55⟩
   refine yq fun K91 hK91 => (yq fun K92 hK92 => (Rest.region mixed (by kernel_rfl) ?_))
   have hH93 : Has E { w88 with drawn := w88.drawn + 1 } [sg, (yP pb d.p), s22, (yo b2 #[va, vb] 61), R] := Has0.drew hH89 _
   refine Rest.phaseA (fun w_ => Has E w_ [s22]) 0 14 14 rfl (by decide) (by kernel_rfl) (zn 0 rfl (by kernel_rfl) (fun w_ h_ => zb (yi at_) e86_14 ⟨rfl, rfl⟩) (zn 1 rfl (by kernel_rfl) (fun w_ h_ => zb v20 e86_9 ⟨rfl, rfl⟩) (zn 2 rfl (by kernel_rfl) (fun w_ h_ => zb (yi (k : Int)) e86_11 ⟨rfl, rfl⟩) ?_)))
   obtain ⟨b94, o95, hc96, ho97⟩ := ix_exF frC_len Tryz.underlying31 ti44 ho23.sl (by omega) hx85
   refine zn 3 rfl (by kernel_rfl) (fun w_ h_ => ho97 rfl rfl ⟨rfl, rfl⟩) (zn 4 rfl (by kernel_rfl) (fun w_ h_ => zg (k := o95 + 1) (fun _ => by kernel_rfl) rfl ⟨rfl, rfl⟩) (zn 5 rfl (by kernel_rfl) (fun w_ h_ => zj (v := (yi x84.pl)) Tryz.underlying3 rfl rfl h_ (zh 0 rfl) (CellsAt.field (k := 1) (ds := [(yi x84.pl)]) hc96 rfl) ⟨rfl, rfl⟩) (zn 6 rfl (by kernel_rfl) (fun w_ h_ => zD (a := x84.pl) (b := 25) rfl rfl (w64 (by omega) (by omega)) ⟨rfl, rfl⟩) (zn 7 rfl (by kernel_rfl) (fun w_ h_ => zb v20 e86_9 ⟨rfl, rfl⟩) (zn 8 rfl (by kernel_rfl) (fun w_ h_ => zb (yi (k : Int)) e86_11 ⟨rfl, rfl⟩) ?_)))))
   obtain ⟨b98, o99, hc100, ho101⟩ := ix_exF frC_len Tryz.underlying31 ti44 ho23.sl (by omega) hx85
   refine zn 9 rfl (by kernel_rfl) (fun w_ h_ => ho101 rfl rfl ⟨rfl, rfl⟩) (zn 10 rfl (by kernel_rfl) (fun w_ h_ => zg (k := o99 + 3) (fun _ => by kernel_rfl) rfl ⟨rfl, rfl⟩) (zn 11 rfl (by kernel_rfl) (fun w_ h_ => zj (v := (S x84.data)) Tryz.underlying9 rfl rfl h_ (zh 0 rfl) (CellsAt.field (k := 3) (ds := [(S x84.data)]) hc100 rfl) ⟨rfl, rfl⟩) (zn 12 rfl (by kernel_rfl) (fun w_ h_ => z8 Tryz.underlying9 rfl ⟨rfl, rfl⟩) (zn 13 rfl (by kernel_rfl) (fun w_ h_ => zD (a := x84.pl + 25) (b := (x84.data.length : Int)) rfl rfl (w64 (by omega) (by omega)) ⟨rfl, rfl⟩) ?_))))
   have hH102 := (hH93.front 2 rfl).first 1 rfl
   refine zM (by kernel_rfl) hH102 (zO 14 rfl (by kernel_rfl) (zL (a := at_) (b := (x84.pl + 25) + (x84.data.length : Int)) rfl rfl (zO 15 rfl (by kernel_rfl) (zb (.bool (decide (at_ < (x84.pl + 25) + (x84.data.length : Int)))) rfl ?_))))
   by_cases h103 : at_ < (x84.pl + 25) + (x84.data.length : Int)
   ·
    refine r_on 16 rfl (by kernel_rfl) 94 rfl (cT h103) (zb (.bool old) e86_12 (r_on 17 rfl (by kernel_rfl) 94 rfl (cT h103) (o_not rfl (zO 18 rfl (by kernel_rfl) (zq (u := (.bool (!old))) ((rfl : _ = _).trans (cT h103)) rfl (Rest.done (by kernel_rfl) (ze (hK92 _ _ (z7 rfl (fun h104 => ?_) (fun h104 => ?_))))))))))
    ·
     have h104_n : old = false := by first | simpa using h104 | exact Bool.of_not_eq_true (fun g_ => by rw [g_] at h104; cases h104)
     refine wp_skip (ze (hK91 _ _ (yq fun K105 hK105 => (wp_block (yq fun K106 hK106 => (zd (za (zb (yi at_) e86_14 (za (zb (yi (64 * (((d.la.length : Nat) : Int) - 2))) e86_10 ?_))))))))))
     have hm107 := emod_b at_ (64 * (((d.la.length : Nat) : Int) - 2)) (by omega)
     refine za (o_rem (a := at_) (b := 64 * (((d.la.length : Nat) : Int) - 2)) (c := at_ % (64 * (((d.la.length : Nat) : Int) - 2))) rfl rfl (by omega) ((Int.tmod_eq_emod_of_nonneg (by first | exact Int.natCast_nonneg _ | omega))) (za (o_quo (a := at_ % (64 * (((d.la.length : Nat) : Int) - 2))) (b := 64) (c := (at_ % (64 * (((d.la.length : Nat) : Int) - 2))) / 64) rfl rfl (by omega) (by rw [(Int.tdiv_eq_ediv_of_nonneg (by first | exact Int.natCast_nonneg _ | omega))]; exact w64 (by omega) (by omega)) (za (zD (a := 2) (b := (at_ % (64 * (((d.la.length : Nat) : Int) - 2))) / 64) rfl rfl (w64 (by omega) (by omega)) (za (zc (yi (2 + ((at_ % (64 * (((d.la.length : Nat) : Int) - 2))) / 64))) rfl (zf (ze (hK106 _ _ (yq fun K108 hK108 => (zd (za (zg (k := 1) (fun _ => by kernel_rfl) e86_3 (za (zj (v := vb) Tryz.underlying59 rfl rfl hH93 (zh 3 rfl) (CellsAt.one rfl) (za (zb (yi 0) e86_7 (za (z6 Tryz.underlying59 ti47 rfl hvb rfl (by omega) (show [(RowV.mk v2 O1)][((0 : Int)).toNat]? = some (RowV.mk v2 O1) from rfl) fun b109 o110 hc111 => (za (zj (v := v2) Tryz.underlying47 rfl rfl hH93 (zh 4 rfl) hc111 (za (zb (yi (2 + ((at_ % (64 * (((d.la.length : Nat) : Int) - 2))) / 64))) rfl (za (zk (vs := #[v2, (yi (2 + ((at_ % (64 * (((d.la.length : Nat) : Int) - 2))) / 64)))]) ca115 rfl (zF rfl rfl) (has8_c hH93.all (l := O1) (hv2.mono (zh 4 rfl)) (2 + ((at_ % (64 * (((d.la.length : Nat) : Int) - 2))) / 64))) ?_))))))))))))))))))))))))))
     rintro _ w114 ⟨rfl, hX112⟩
     refine ⟨_, rfl, ?_⟩
     have hH113 := hX112.of_all
     refine za (zb (.bool (decide (2 + ((at_ % (64 * (((d.la.length : Nat) : Int) - 2))) / 64) ∈ O1))) rfl ?_)
     by_cases h115 : 2 + ((at_ % (64 * (((d.la.length : Nat) : Int) - 2))) / 64) ∈ O1
     ·
      refine zo 112 rfl (cT h115) (zb v3 e86_8 (zo 112 rfl (cT h115) (zb (yi (2 + ((at_ % (64 * (((d.la.length : Nat) : Int) - 2))) / 64))) rfl (zo 112 rfl (cT h115) (zk (vs := #[v3, (yi (2 + ((at_ % (64 * (((d.la.length : Nat) : Int) - 2))) / 64)))]) ca115 rfl (zF rfl rfl) (has8_c hH113.all (l := keep) (hv3.mono (zh 4 rfl)) (2 + ((at_ % (64 * (((d.la.length : Nat) : Int) - 2))) / 64))) ?_)))))
      rintro _ w118 ⟨rfl, hX116⟩
      refine ⟨_, rfl, ?_⟩
      have hH117 := hX116.of_all
      refine zo 112 rfl (cT h115) (o_not2 (b := decide (2 + ((at_ % (64 * (((d.la.length : Nat) : Int) - 2))) / 64) ∈ keep)) (b' := decide (¬ (2 + ((at_ % (64 * (((d.la.length : Nat) : Int) - 2))) / 64) ∈ keep))) rfl not_dec (za (zq (u := (.bool (decide (¬ (2 + ((at_ % (64 * (((d.la.length : Nat) : Int) - 2))) / 64) ∈ keep))))) ((rfl : _ = _).trans (cT h115)) rfl (zf (ze (hK108 _ _ (zt rfl (fun h119 => ?_) (fun h119 => ?_))))))))
      ·
       refine yq fun K120 hK120 => (zd (za (zc (.bool true) rfl (zf (ze (hK120 _ _ (wp_ret (zZ (zx (zx (zZ (zZ (zx (zx (zZ (zZ (zx (zx (zZ (zx (zr Tryz.results27  (v := (.bool true)) rfl ?_)))))))))))))))))))))
       have hH121 := (((hH117.front 4 rfl).front 2 rfl).front 2 rfl).first 3 rfl
       exact ⟨true, rfl, (fun g => by cases g), hH121⟩
      ·
       refine wp_skip (zC (ze (hK105 _ _ (zd (za (zb (yi at_) e86_14 (za (zD (a := at_) (b := 1) rfl rfl (w64 (by omega) (by omega)) (za (zc (yi (at_ + 1)) rfl (zf (ze ⟨(x84.pl + 25 + (x84.data.length : Int) - (at_ + 1)).toNat, _, rfl, ?_, ?_⟩))))))))))))
       · omega
       · exact ⟨(at_ + 1), rfl, hH117, (⟨by omega, by omega⟩), e86_0, e86_1, e86_2, e86_3, e86_7, e86_8, e86_9, e86_10, e86_11, e86_12, e86_13, rfl, e86_19, e86_25, e86_45, e86_55⟩
     ·
      refine zi (b' := false) 112 rfl (cF h115) rfl (zi (b' := false) 112 rfl (cF h115) rfl (zi (b' := false) 112 rfl (cF h115) rfl (zi (b' := false) 112 rfl (cF h115) rfl (za (zm (u := (.bool false)) ((rfl : _ = _).trans (cF h115)) rfl (zf (ze (hK108 _ _ (zK rfl rfl (wp_skip (zC (ze (hK105 _ _ (zd (za (zb (yi at_) e86_14 (za (zD (a := at_) (b := 1) rfl rfl (w64 (by omega) (by omega)) (za (zc (yi (at_ + 1)) rfl ?_))))))))))))))))))))
      refine zf (ze ⟨(x84.pl + 25 + (x84.data.length : Int) - (at_ + 1)).toNat, _, rfl, ?_, ?_⟩)
      · omega
      · exact ⟨(at_ + 1), rfl, hH113, (⟨by omega, by omega⟩), e86_0, e86_1, e86_2, e86_3, e86_7, e86_8, e86_9, e86_10, e86_11, e86_12, e86_13, rfl, e86_19, e86_25, e86_45, e86_55⟩
    ·
     have h104_n : old = true := by first | simpa using h104 | exact Bool.of_not_eq_false (fun g_ => by rw [g_] at h104; cases h104)
     refine wp_exit (zy (zy (x_in ((zC (ze (hK44 _ _ (zd (za (zb (yi (k : Int)) e86_11 (za (zD (a := (k : Int)) (b := 1) rfl rfl (w64 (by omega) (by omega)) (za (zc (yi ((k : Int) + 1)) rfl (zf (ze ⟨F21.length - (k + 1), _, rfl, ?_, ?_⟩))))))))))))))))
     · omega
     · exact ⟨(k + 1), rfl, hH93, (by omega), e86_0, e86_1, e86_2, e86_3, e86_7, e86_8, e86_9, e86_10, rfl, e86_19, e86_25⟩
   ·
    refine r_off (b' := false) 16 rfl (by kernel_rfl) 94 rfl (cF h103) rfl (r_off (b' := false) 17 rfl (by kernel_rfl) 94 rfl (cF h103) rfl (zO 18 rfl (by kernel_rfl) (zm (u := (.bool false)) ((rfl : _ = _).trans (cF h103)) rfl (Rest.done (by kernel_rfl) (ze (hK92 _ _ (zK rfl rfl (wp_exit (zy (zy (x_in ((zC (ze (hK44 _ _ (zd (za (zb (yi (k : Int)) e86_11 (za (zD (a := (k : Int)) (b := 1) rfl rfl (w64 (by omega) (by omega)) (za (zc (yi ((k : Int) + 1)) rfl (zf ?_)))))))))))))))))))))))
    refine ze ⟨F21.length - (k + 1), _, rfl, ?_, ?_⟩
    · omega
    · exact ⟨(k + 1), rfl, hH93, (by omega), e86_0, e86_1, e86_2, e86_3, e86_7, e86_8, e86_9, e86_10, rfl, e86_19, e86_25⟩
 ·
  refine wp_exit (zy (zy (x_in ((zC (ze (hK9 _ _ (zd (za (zb (yi 0) e36_7 (za (zD (a := 0) (b := 1) (c := 1) rfl rfl (by decide) (za (zc (yi 1) rfl (zf (ze (u_round (yq fun K122 hK122 => (yq fun K123 hK123 => (zd (za (zb (yi 1) rfl (za (zb vd e36_2 ?_))))))))))))))))))))))))
  refine za (zQ Tryz.underlying74 rfl hvd (za (zL (a := 1) (b := 1) rfl rfl (zf (ze (hK123 _ _ (zK rfl rfl (wp_exit (zy (zy (x_in ((ze (hK5 _ _ (yq fun K124 hK124 => (zd (za (zb vd e36_2 (za (zk (vs := #[vd]) ca116 rfl (zI rfl) (pasted8_c (d := d) ((hH39.front 1 rfl).front 1 rfl).all2 hd h4 h64 h3 (vd := vd) (hvd.mono (zh 2 rfl))) ?_))))))))))))))))))))
  rintro _ w129 ⟨pb125, rfl, hpb126, hX127⟩
  refine ⟨_, rfl, ?_⟩
  have hH128 := hX127.of_all2
  refine za (zc (.bool pb125) rfl (zf (ze (hK124 _ _ (wp_ret (zr Tryz.results27  (v := (.bool pb125)) rfl ?_))))))
  have hH130 := (((hH128.front 4 rfl).front 2 rfl).front 2 rfl).first 3 rfl
  exact ⟨_, rfl, hpb126, hH130⟩
end Go.Q
namespace Go.Q
def bpV (b : Nat) : Value := .pointer (some ⟨b, 0, none⟩)
theorem Has.cl2 {E w : World} {a b : List Hp} {ss : List (List Hp)} (H : Has E w (a :: b :: ss)) : Has E w ((a ++ b) :: ss) := by
 unfold Has at *; simpa only [List.flatten_cons, List.append_assoc] using H
theorem Has.op2 {E w : World} {a b : List Hp} {ss : List (List Hp)} (H : Has E w ((a ++ b) :: ss)) : Has E w (a :: b :: ss) := by
 unfold Has at *; simpa only [List.flatten_cons, List.append_assoc] using H
structure DEnt (κ σ : Type) where
 key : κ
 b : Nat
 sg : List Hp
 val : σ
section
variable {κ σ : Type} [DecidableEq κ]
def wher (L : List (DEnt κ σ)) : List (κ × Nat) := L.map fun x => (x.key, x.b)
def what (L : List (DEnt κ σ)) : List (κ × σ) := L.map fun x => (x.key, x.val)
def DirAt (gk : κ → Value) (At : Nat → List Hp → σ → Prop) (mb : Nat) (sg : List Hp) (t : List (κ × σ)) : Prop :=
 ∃ es c L, sg = [Hp.one mb (.map es c)] ++ L.flatMap (·.sg) ∧ MapV gk bpV es c (wher L) ∧ (∀ x ∈ L, At x.b x.sg x.val) ∧ what L = t
def DirRd (gk : κ → Value) (Rd : List Hp → Nat → σ → Prop) (R : List Hp) (mb : Nat) (t : List (κ × σ)) : Prop :=
 ∃ es c L, Hp.one mb (.map es c) ∈ R ∧ MapV gk bpV es c (wher L) ∧ (∀ x ∈ L, Rd R x.b x.val) ∧ what L = t
def DirHole (gk : κ → Value) (At : Nat → List Hp → σ → Prop) (mb : Nat) (k : κ) (b : Nat) (sr : List Hp) (t : List (κ × σ)) : Prop :=
 ∃ es c A B v sx, sr = [Hp.one mb (.map es c)] ++ (A.flatMap (·.sg) ++ B.flatMap (·.sg)) ∧ MapV gk bpV es c (wher (A ++ ⟨k, b, sx, v⟩ :: B)) ∧ (∀ x ∈ A ++ B, At x.b x.sg x.val) ∧ what (A ++ ⟨k, b, sx, v⟩ :: B) = t
omit [DecidableEq κ] in
theorem DirRd.mono {gk : κ → Value} {Rd : List Hp → Nat → σ → Prop} {R R' : List Hp} {mb : Nat} {t : List (κ × σ)} (hm : ∀ {R R' : List Hp} {b : Nat} {v : σ}, Rd R b v → R ⊆ R' → Rd R' b v) (h : DirRd gk Rd R mb t) (hs : R ⊆ R') : DirRd gk Rd R' mb t := by
 obtain ⟨es, c, L, h1, h2, h3, h4⟩ := h
 exact ⟨es, c, L, hs h1, h2, fun x hx => hm (h3 x hx) hs, h4⟩
omit [DecidableEq κ] in
theorem DirAt.rd {gk : κ → Value} {At : Nat → List Hp → σ → Prop} {Rd : List Hp → Nat → σ → Prop} {mb : Nat} {sg : List Hp} {t : List (κ × σ)} (hm : ∀ {R R' : List Hp} {b : Nat} {v : σ}, Rd R b v → R ⊆ R' → Rd R' b v)
  (ha : ∀ {b : Nat} {sg : List Hp} {v : σ}, At b sg v → Rd sg b v) (h : DirAt gk At mb sg t) : DirRd gk Rd sg mb t := by
 obtain ⟨es, c, L, rfl, h2, h3, h4⟩ := h
 exact ⟨es, c, L, by simp, h2, fun x hx => hm (ha (h3 x hx)) fun y hy => List.mem_append_right _ (List.mem_flatMap.2 ⟨x, hx, hy⟩), h4⟩
omit [DecidableEq κ] in
theorem DirAt.new {gk : κ → Value} {At : Nat → List Hp → σ → Prop} {mb : Nat} : DirAt gk At mb [Hp.one mb (.map #[] 0)] ([] : List (κ × σ)) := ⟨#[], 0, [], by simp, MapV.nil, by simp, rfl⟩
omit [DecidableEq κ] in
theorem what_keys (L : List (DEnt κ σ)) : (what L).map (·.1) = (wher L).map (·.1) := by simp [what, wher, Function.comp_def]
omit [DecidableEq κ] in
theorem DirAt.nodup {gk : κ → Value} {At : Nat → List Hp → σ → Prop} {mb : Nat} {sg : List Hp} {t : List (κ × σ)} (h : DirAt gk At mb sg t) : (t.map (·.1)).Nodup := by
 obtain ⟨es, c, L, _, h2, _, rfl⟩ := h
 rw [what_keys]; exact h2.nodup
omit [DecidableEq κ] in
theorem DirRd.nodup {gk : κ → Value} {Rd : List Hp → Nat → σ → Prop} {R : List Hp} {mb : Nat} {t : List (κ × σ)} (h : DirRd gk Rd R mb t) : (t.map (·.1)).Nodup := by
 obtain ⟨es, c, L, _, h2, _, rfl⟩ := h
 rw [what_keys]; exact h2.nodup
theorem DirHole.get {gk : κ → Value} {At : Nat → List Hp → σ → Prop} {mb b : Nat} {k : κ} {sr : List Hp} {t : List (κ × σ)} (h : DirHole gk At mb k b sr t) : (getB t k).isSome = true := by
 obtain ⟨es, c, A, B, v0, sx0, rfl, h2, h3, rfl⟩ := h
 rw [getB_mem]; simp [what]
section ops
variable {P : Program} {ρ : Operand → Value} {E w : World} {ss : List (List Hp)} {K : Value → World → Prop} {dst : Option Tmp} {T : TypeId} {pos : String} {after : Array Edge} {g : Option (Nat × Bool)} {gk : κ → Value} {At : Nat → List Hp → σ → Prop} {Rd : List Hp → Nat → σ → Prop}
end ops
end
end Go.Q
namespace Go.Q
open Go.Proofs
set_option linter.unusedVariables false
set_option maxRecDepth 100000
attribute [local irreducible] wpList OK Code.wp
def StmAt (db : Nat) (ab : Nat) (b : Nat) (sg : List Hp) (v : StmS) : Prop := ∃ (x7 : Value) (h7 : List Hp), sg = ((yS b v db ab x7) ++ h7) ∧ (OwnL 42 3 x7 v.l.length (v.l.flatMap enC) h7)
def StmRd (db : Nat) (ab : Nat) (R : List Hp) (b : Nat) (v : StmS) : Prop := ∃ (x7 : Value), CellsAt R b 0 [(yi v.seq), (yi v.ep), (yi v.hcut), (yi v.st), (yi v.mrk), (yp db), (yp ab), x7, (yi v.tail), (yi v.flushed), (yi v.res), (.bool v.cut), (yi v.err)] ∧ (Sl R 3 x7 v.l.length (v.l.flatMap enC))
theorem StmAt.mk {db : Nat} {ab : Nat} {b : Nat} {v : StmS} {x7 : Value} {h7 : List Hp} (f7 : OwnL 42 3 x7 v.l.length (v.l.flatMap enC) h7) : StmAt db ab b (((yS b v db ab x7) ++ h7)) v := ⟨_, _, rfl, f7⟩
theorem StmRd.mk {db : Nat} {ab : Nat} {R : List Hp} {b : Nat} {v : StmS} {x7 : Value} (hc : CellsAt R b 0 [(yi v.seq), (yi v.ep), (yi v.hcut), (yi v.st), (yi v.mrk), (yp db), (yp ab), x7, (yi v.tail), (yi v.flushed), (yi v.res), (.bool v.cut), (yi v.err)]) (f7 : Sl R 3 x7 v.l.length (v.l.flatMap enC)) : StmRd db ab R b v := ⟨_, hc, f7⟩
theorem StmRd.mono {db : Nat} {ab : Nat} {R R' : List Hp} {b : Nat} {v : StmS} (h : StmRd db ab R b v) (hs : R ⊆ R') : StmRd db ab R' b v := by
 obtain ⟨x7, hc, f7⟩ := h
 exact StmRd.mk (hc.mono hs) (f7.mono hs)
theorem StmAt.rd {db : Nat} {ab : Nat} {b : Nat} {sg : List Hp} {v : StmS} (h : StmAt db ab b sg v) : StmRd db ab sg b v := by
 obtain ⟨x7, h7, rfl, f7⟩ := h
 exact StmRd.mk ((CellsAt.one rfl).mono (fun _ g_ => List.mem_append_left _ g_)) (f7.sl.mono (fun _ g_ => List.mem_append_right _ (g_)))
theorem alenr_c {E w : World} {R : List Hp} (hH : Has E w [R]) {db ab : Nat} {fr n : Int} (hc : CellsAt R ab 0 [.pointer (some ⟨db, 0, none⟩), .int .i64 fr, .int .i64 n]) (hn : 1 ≤ n ∧ n ≤ 4096) :
  Calls Tryz.prog 99 #[(yp ab)] w fun e w' => e = .returned (yi (n * 64)) ∧ Has E w' [R] := by
 obtain ⟨hn1, hn2⟩ := hn
 refine zs (args := [(yp ab)]) Tryz.func99 rfl Tryz.ntmps99 (by simp) (yq fun K1 hK1 => (zd (za (zc (yi 0) rfl (zf (ze (hK1 _ _ (yq fun K2 hK2 => (yq fun K3 hK3 => (zd (za (zb (yp ab) rfl (za (o_pnil (p := some _) Tryz.underlying160 rfl rfl (zf (ze (hK3 _ _ (zK rfl rfl (wp_skip ?_)))))))))))))))))))
 refine ze (hK2 _ _ (yq fun K4 hK4 => (zd (za (zb (yp ab) rfl (za (zl rfl (za (zg (k := 2) (fun _ => by kernel_rfl) rfl (za (zj (v := (yi n)) Tryz.underlying3 rfl rfl hH (zh 0 rfl) (CellsAt.field (k := 2) (ds := [(yi n)]) hc rfl) (za (o_mul (a := n) (b := 64) rfl rfl (w64 (by omega) (by omega)) (za (zc (yi (n * 64)) rfl (zf (ze (hK4 _ _ (wp_ret (zr Tryz.results99  (v := (yi (n * 64))) rfl ?_))))))))))))))))))))
 exact ⟨rfl, hH⟩
theorem serr_c {E w : World} {R : List Hp} {sb : Nat} {db : Nat} {ab : Nat} {v : StmS}  (hH : Has E w [R]) (h_sb : StmRd db ab R sb v) :
  Calls Tryz.prog 39 #[(yp sb)] w fun e w' => e = .returned (yi v.err) ∧ Has E w' [R] := by
 obtain ⟨x1, hc3, f2⟩ := h_sb
 have f2_n := f2.le
 refine zs (args := [(yp sb)]) Tryz.func39 rfl Tryz.ntmps39 (by simp) (yq fun K4 hK4 => (zd (za (zc (yi 0) rfl (zf (ze (hK4 _ _ (yq fun K5 hK5 => (yq fun K6 hK6 => (zd (za (zb (yp sb) rfl (za (o_pnil (p := some _) Tryz.underlying34 rfl rfl (zf (ze (hK6 _ _ (zK rfl rfl (wp_skip ?_)))))))))))))))))))
 refine ze (hK5 _ _ (yq fun K7 hK7 => (zd (za (zb (yp sb) rfl (za (zl rfl (za (zg (k := 12) (fun _ => by kernel_rfl) rfl (za (zj (v := (yi v.err)) Tryz.underlying28 rfl rfl hH (zh 0 rfl) (CellsAt.field (k := 12) (ds := [(yi v.err)]) hc3 rfl) (za (zc (yi v.err) rfl (zf (ze (hK7 _ _ (wp_ret (zr Tryz.results39  (v := (yi v.err)) rfl ?_))))))))))))))))))
 exact ⟨rfl, hH⟩
theorem sready_c {E w : World} {R : List Hp} {sb : Nat} {db : Nat} {ab : Nat} {v : StmS}  (hH : Has E w [R]) (h_sb : StmRd db ab R sb v) :
  Calls Tryz.prog 106 #[(yp sb)] w fun e w' => e = .returned (yi (readyE v)) ∧ Has E w' [R] := by
 obtain ⟨x1, hc3, f2⟩ := h_sb
 have f2_n := f2.le
 refine zs (args := [(yp sb)]) Tryz.func106 rfl Tryz.ntmps106 (by simp) (yq fun K4 hK4 => (zd (za (zc (yi 0) rfl (zf (ze (hK4 _ _ (yq fun K5 hK5 => (yq fun K6 hK6 => (zd (za (zb (yp sb) rfl (za (zk (vs := #[(yp sb)]) ca39 rfl (zI rfl) (serr_c (v := v) (db := db) (ab := ab) hH.all ((StmRd.mk hc3 f2).mono (zh 0 rfl))) ?_))))))))))))))
 rintro _ w9 ⟨rfl, hX7⟩
 refine ⟨_, rfl, ?_⟩
 have hH8 := hX7.of_all
 refine za (zc (yi v.err) rfl (zf (ze (hK6 _ _ (yq fun K10 hK10 => (zd (za (zb (yi v.err) rfl (za (o_neq (a := v.err) (b := 0) rfl rfl (zf (ze (hK10 _ _ (zt rfl (fun h11 => ?_) (fun h11 => ?_)))))))))))))))
 ·
  refine yq fun K12 hK12 => (zd (za (zb (yi v.err) rfl (za (zc (yi v.err) rfl (zf (ze (hK12 _ _ (wp_ret (zx (zr Tryz.results106  (v := (yi v.err)) rfl ?_)))))))))))
  have q13 : (readyE v) = v.err := by unfold readyE; simp [h11]
  exact ⟨by rw [q13], hH8⟩
 ·
  refine wp_skip (ze (hK5 _ _ (yq fun K14 hK14 => (yq fun K15 hK15 => (zd (za (zb (yp sb) rfl (za (zl rfl (za (zg (k := 11) (fun _ => by kernel_rfl) rfl (za (zj (v := (.bool v.cut)) Tryz.underlying4 rfl rfl hH8 (zh 0 rfl) (CellsAt.field (k := 11) (ds := [(.bool v.cut)]) hc3 rfl) (za (o_not rfl (zf (ze (hK15 _ _ (z7 rfl (fun h16 => ?_) (fun h16 => ?_))))))))))))))))))))
  ·
   have h16_n : v.cut = false := by first | simpa using h16 | exact Bool.of_not_eq_true (fun g_ => by rw [g_] at h16; cases h16)
   refine yq fun K17 hK17 => (zd (za (zc (yi 12) rfl (zf (ze (hK17 _ _ (wp_ret (zx (zr Tryz.results106  (v := (yi 12)) rfl ?_)))))))))
   have q18 : (readyE v) = 12 := by unfold readyE; simp [h11, h16, h16_n]
   exact ⟨by rw [q18], hH8⟩
  ·
   have h16_n : v.cut = true := by first | simpa using h16 | exact Bool.of_not_eq_false (fun g_ => by rw [g_] at h16; cases h16)
   refine wp_skip (ze (hK14 _ _ (yq fun K19 hK19 => (zd (za (zc (yi 0) rfl (zf (ze (hK19 _ _ (wp_ret (zr Tryz.results106  (v := (yi 0)) rfl ?_)))))))))))
   have q20 : (readyE v) = 0 := by unfold readyE; simp [h11, h16, h16_n]
   exact ⟨by rw [q20], hH8⟩
theorem sstays_c {E w : World} {R : List Hp} {sb : Nat} {sg_sb : List Hp} {db : Nat} {ab : Nat} {v : StmS} {e_ : Int}  (hH : Has E w [sg_sb, R]) (h_sb : StmAt db ab sb sg_sb v) :
  Calls Tryz.prog 109 #[(yp sb), (yi e_)] w fun e w' => ∃ (sg_sb' : List Hp), e = .returned (yi e_) ∧ (StmAt db ab sb sg_sb' (stays v e_)) ∧ Has E w' [sg_sb', R] := by
 obtain ⟨x1, s2, rfl, f3⟩ := h_sb
 have hH4 : Has E w [(yS sb v db ab x1), s2, R] := Has.op2 hH
 refine zs (args := [(yp sb), (yi e_)]) Tryz.func109 rfl Tryz.ntmps109 (by simp) (yq fun K5 hK5 => (zd (za (zc (yi 0) rfl (zf (ze (hK5 _ _ (yq fun K6 hK6 => (yq fun K7 hK7 => (zd (za (zb (yi e_) rfl (za (yc (a := e_) (b := 6) rfl rfl (zf (ze (hK7 _ _ (zt rfl (fun h8 => ?_) (fun h8 => ?_)))))))))))))))))))
 ·
  refine zd (za (zb (yp sb) rfl (za (zb (yi e_) rfl (za (zl rfl (za (zg (k := 12) (fun _ => by kernel_rfl) rfl (zB (zH (c' := #[(yi v.seq), (yi v.ep), (yi v.hcut), (yi v.st), (yi v.mrk), (yp db), (yp ab), x1, (yi v.tail), (yi v.flushed), (yi v.res), (.bool v.cut), (yi e_)]) ti28 rfl rfl rfl (by simp) rfl (hH4.front 0 rfl) fun w9 hH10 => (zf (ze (hK6 _ _ (yq fun K11 hK11 => (zd (za (zb (yi e_) rfl (za (zc (yi e_) rfl (zf (ze (hK11 _ _ (wp_ret ?_)))))))))))))))))))))))
  refine zr Tryz.results109  (v := (yi e_)) rfl ?_
  have hH12 := Has.cl2 ((hH10.front 1 rfl).front 1 rfl)
  have hd13 : StmAt db ab sb ((yo sb #[(yi v.seq), (yi v.ep), (yi v.hcut), (yi v.st), (yi v.mrk), (yp db), (yp ab), x1, (yi v.tail), (yi v.flushed), (yi v.res), (.bool v.cut), (yi e_)] 175) ++ s2) (⟨v.seq, v.ep, v.hcut, v.st, v.mrk, v.l, v.tail, v.flushed, v.res, v.cut, e_⟩ : StmS) := StmAt.mk (v := (⟨v.seq, v.ep, v.hcut, v.st, v.mrk, v.l, v.tail, v.flushed, v.res, v.cut, e_⟩ : StmS)) f3
  have q14 : (stays v e_) = (⟨v.seq, v.ep, v.hcut, v.st, v.mrk, v.l, v.tail, v.flushed, v.res, v.cut, e_⟩ : StmS) := by unfold stays; rw [if_pos h8]; rw [h8]
  exact ⟨_, rfl, (by rw [q14]; exact hd13), hH12⟩
 ·
  refine wp_skip (ze (hK6 _ _ (yq fun K15 hK15 => (zd (za (zb (yi e_) rfl (za (zc (yi e_) rfl (zf (ze (hK15 _ _ (wp_ret (zr Tryz.results109  (v := (yi e_)) rfl ?_)))))))))))))
  have hH16 := Has.cl2 ((hH4.front 1 rfl).front 1 rfl)
  have hd17 : StmAt db ab sb ((yS sb v db ab x1) ++ s2) v := StmAt.mk (v := v) f3
  have q18 : (stays v e_) = v := by unfold stays; rw [if_neg h8]
  exact ⟨_, rfl, (by rw [q18]; exact hd17), hH16⟩
theorem slast_c {E w : World} {R : List Hp} {sb : Nat} {db : Nat} {ab : Nat} {v : StmS} {n : Int} (hH : Has E w [R]) (h_sb : StmRd db ab R sb v) (hok : StmOk n v) :
  Calls Tryz.prog 29 #[(yp sb)] w fun e w' => e = .returned (yi (lastV v)) ∧ Has E w' [R] := by
 obtain ⟨hle1_, hle2_⟩ := hok.le
 obtain ⟨hn1_, hn2_⟩ := hok.num
 obtain ⟨hm1_, hm2_⟩ := hok.mrk
 obtain ⟨hs1_, hs2_⟩ := hok.st
 have ht_ := hok.tail
 obtain ⟨hr1_, hr2_⟩ := hok.res
 obtain ⟨hf1_, hf2_⟩ := hok.fl
 obtain ⟨hla1_, hla2_, hla3_⟩ := last_le hok
 have hfv_ : freeV n v = n * 64 - (v.tail - v.st) - v.res := rfl
 obtain ⟨x1, hc3, f2⟩ := h_sb
 have f2_n := f2.le
 refine zs (args := [(yp sb)]) Tryz.func29 rfl Tryz.ntmps29 (by simp) (yq fun K4 hK4 => (zd (za (zc (yi 0) rfl (zf (ze (hK4 _ _ (yq fun K5 hK5 => (yq fun K6 hK6 => (zd (za (zb (yp sb) rfl (za (o_pnil (p := some _) Tryz.underlying34 rfl rfl (zf (ze (hK6 _ _ (zK rfl rfl (wp_skip ?_)))))))))))))))))))
 refine ze (hK5 _ _ (yq fun K7 hK7 => (yq fun K8 hK8 => (zd (za (zb (yp sb) rfl (za (zl rfl (za (zg (k := 7) (fun _ => by kernel_rfl) rfl (za (zj (v := x1) Tryz.underlying37 rfl rfl hH (zh 0 rfl) (CellsAt.field (k := 7) (ds := [x1]) hc3 rfl) (za (zQ Tryz.underlying37 rfl f2 (za (zc (yi ((v.l.length : Nat) : Int)) rfl (zf (ze (hK8 _ _ (yq fun K9 hK9 => (zd (za (zb (yi ((v.l.length : Nat) : Int)) rfl ?_)))))))))))))))))))))))
 refine za (o_gtr (a := ((v.l.length : Nat) : Int)) (b := 0) rfl rfl (zf (ze (hK9 _ _ (zt rfl (fun h10 => ?_) (fun h10 => ?_))))))
 ·
  refine yq fun K11 hK11 => (Rest.region mixed (by kernel_rfl) ?_)
  have hH12 : Has E { w with drawn := w.drawn + 1 } [R] := Has0.drew hH _
  refine Rest.phaseA (fun w_ => Has E w_ [R]) 0 16 16 rfl (by decide) (by kernel_rfl) (zn 0 rfl (by kernel_rfl) (fun w_ h_ => zb (yp sb) rfl ⟨rfl, rfl⟩) (zn 1 rfl (by kernel_rfl) (fun w_ h_ => zl rfl ⟨rfl, rfl⟩) (zn 2 rfl (by kernel_rfl) (fun w_ h_ => zg (k := 0) (fun _ => by kernel_rfl) rfl ⟨rfl, rfl⟩) (zn 3 rfl (by kernel_rfl) (fun w_ h_ => zg (k := 0) (fun _ => by kernel_rfl) rfl ⟨rfl, rfl⟩) (zn 4 rfl (by kernel_rfl) (fun w_ h_ => zg (k := 4) (fun _ => by kernel_rfl) rfl ⟨rfl, rfl⟩) (zn 5 rfl (by kernel_rfl) (fun w_ h_ => zj (v := (yi v.mrk)) Tryz.underlying3 rfl rfl h_ (zh 0 rfl) (CellsAt.field (k := 4) (ds := [(yi v.mrk)]) (CellsAt.field (k := 0) (ds := [(yi v.seq), (yi v.ep), (yi v.hcut), (yi v.st), (yi v.mrk)]) (CellsAt.field (k := 0) (ds := [(yi v.seq), (yi v.ep), (yi v.hcut), (yi v.st), (yi v.mrk)]) hc3 rfl) rfl) rfl) ⟨rfl, rfl⟩) (zn 6 rfl (by kernel_rfl) (fun w_ h_ => zb (yp sb) rfl ⟨rfl, rfl⟩) (zn 7 rfl (by kernel_rfl) (fun w_ h_ => zl rfl ⟨rfl, rfl⟩) (zn 8 rfl (by kernel_rfl) (fun w_ h_ => zg (k := 7) (fun _ => by kernel_rfl) rfl ⟨rfl, rfl⟩) (zn 9 rfl (by kernel_rfl) (fun w_ h_ => zj (v := x1) Tryz.underlying37 rfl rfl h_ (zh 0 rfl) (CellsAt.field (k := 7) (ds := [x1]) hc3 rfl) ⟨rfl, rfl⟩) (zn 10 rfl (by kernel_rfl) (fun w_ h_ => zb (yi ((v.l.length : Nat) : Int)) rfl ⟨rfl, rfl⟩) (zn 11 rfl (by kernel_rfl) (fun w_ h_ => o_sub (a := ((v.l.length : Nat) : Int)) (b := 1) rfl rfl (w64 (by omega) (by omega)) ⟨rfl, rfl⟩) ?_))))))))))))
  obtain ⟨x16, hx17⟩ : ∃ x_, v.l[(((v.l.length : Nat) : Int) - 1).toNat]? = some x_ := zN (by omega)
  obtain ⟨b13, o14, hc15, ho18⟩ := ix_exF enC_len Tryz.underlying37 ti42 f2 (by omega) hx17
  refine zn 12 rfl (by kernel_rfl) (fun w_ h_ => ho18 rfl rfl ⟨rfl, rfl⟩) (zn 13 rfl (by kernel_rfl) (fun w_ h_ => zg (k := o14) (fun _ => by kernel_rfl) rfl ⟨rfl, rfl⟩) (zn 14 rfl (by kernel_rfl) (fun w_ h_ => zj (v := (yi x16.gsn)) Tryz.underlying3 rfl rfl h_ (zh 0 rfl) (CellsAt.field (k := 0) (ds := [(yi x16.gsn)]) hc15 rfl) ⟨rfl, rfl⟩) (a_w 15 rfl (by kernel_rfl) hH12 (zw (ps := #[(0, (yi x16.gsn))]) (cells := #[(yi x16.gsn)]) Tryz.underlying47 ti3 (by decide) (yb rfl) (by kernel_rfl) hH12 fun b19 w20 hH21 => ?_))))
  have hH22 := (hH21.front 1 rfl).first 1 rfl
  refine zM (by kernel_rfl) hH22 (zO 16 rfl (by kernel_rfl) (zk (vs := #[(yi v.mrk), (.slice (some ⟨b19, 0, none⟩) 1 1)]) ca117 rfl (zF rfl rfl) (most_c hH21.all (l := [x16.gsn]) v.mrk ((zW (f := iV) (l := [x16.gsn]) rfl rfl (by simp)).mono (zh 0 rfl))) ?_))
  rintro _ w25 ⟨rfl, hX23⟩
  refine ⟨_, rfl, ?_⟩
  have hH24 := hX23.of_all
  refine zO 17 rfl (by kernel_rfl) (zc (yi ([x16.gsn].foldl max v.mrk)) rfl (Rest.done (by kernel_rfl) (ze (hK11 _ _ (wp_ret (zx (zr Tryz.results29  (v := (yi ([x16.gsn].foldl max v.mrk))) rfl ?_)))))))
  have q26 : (lastV v) = [x16.gsn].foldl max v.mrk := by rw [last_some (show v.l[v.l.length - 1]? = some _ from by rw [show v.l.length - 1 = ((v.l.length : Int) - 1).toNat by omega]; exact hx17)]; rfl
  have hH27 := (hH24.front 1 rfl).first 1 rfl
  exact ⟨by rw [q26], hH27⟩
 ·
  refine wp_skip (ze (hK7 _ _ (yq fun K28 hK28 => (zd (za (zb (yp sb) rfl (za (zl rfl (za (zg (k := 0) (fun _ => by kernel_rfl) rfl (za (zg (k := 0) (fun _ => by kernel_rfl) rfl (za (zg (k := 4) (fun _ => by kernel_rfl) rfl (za (zj (v := (yi v.mrk)) Tryz.underlying3 rfl rfl hH (zh 0 rfl) (CellsAt.field (k := 4) (ds := [(yi v.mrk)]) (CellsAt.field (k := 0) (ds := [(yi v.seq), (yi v.ep), (yi v.hcut), (yi v.st), (yi v.mrk)]) (CellsAt.field (k := 0) (ds := [(yi v.seq), (yi v.ep), (yi v.hcut), (yi v.st), (yi v.mrk)]) hc3 rfl) rfl) rfl) (za (zc (yi v.mrk) rfl (zf (ze (hK28 _ _ (wp_ret (zr Tryz.results29  (v := (yi v.mrk)) rfl ?_)))))))))))))))))))))))
  have q29 : (lastV v) = v.mrk := by exact last_none (by omega)
  exact ⟨by rw [q29], hH⟩
theorem sloose_c {E w : World} {R : List Hp} {sb : Nat} {db : Nat} {ab : Nat} {v : StmS} {n : Int} (hH : Has E w [R]) (h_sb : StmRd db ab R sb v) (hok : StmOk n v) :
  Calls Tryz.prog 37 #[(yp sb)] w fun e w' => e = .returned (yi ((v.l.length : Int) - v.flushed)) ∧ Has E w' [R] := by
 obtain ⟨hle1_, hle2_⟩ := hok.le
 obtain ⟨hn1_, hn2_⟩ := hok.num
 obtain ⟨hm1_, hm2_⟩ := hok.mrk
 obtain ⟨hs1_, hs2_⟩ := hok.st
 have ht_ := hok.tail
 obtain ⟨hr1_, hr2_⟩ := hok.res
 obtain ⟨hf1_, hf2_⟩ := hok.fl
 obtain ⟨hla1_, hla2_, hla3_⟩ := last_le hok
 have hfv_ : freeV n v = n * 64 - (v.tail - v.st) - v.res := rfl
 obtain ⟨x1, hc3, f2⟩ := h_sb
 have f2_n := f2.le
 refine zs (args := [(yp sb)]) Tryz.func37 rfl Tryz.ntmps37 (by simp) (yq fun K4 hK4 => (zd (za (zc (yi 0) rfl (zf (ze (hK4 _ _ (yq fun K5 hK5 => (yq fun K6 hK6 => (zd (za (zb (yp sb) rfl (za (o_pnil (p := some _) Tryz.underlying34 rfl rfl (zf (ze (hK6 _ _ (zK rfl rfl (wp_skip ?_)))))))))))))))))))
 refine ze (hK5 _ _ (yq fun K7 hK7 => (Rest.region mixed (by kernel_rfl) ?_)))
 have hH8 : Has E { w with drawn := w.drawn + 1 } [R] := Has0.drew hH _
 refine Rest.phaseA (fun w_ => Has E w_ [R]) 0 9 9 rfl (by decide) (by kernel_rfl) (zn 0 rfl (by kernel_rfl) (fun w_ h_ => zb (yp sb) rfl ⟨rfl, rfl⟩) (zn 1 rfl (by kernel_rfl) (fun w_ h_ => zl rfl ⟨rfl, rfl⟩) (zn 2 rfl (by kernel_rfl) (fun w_ h_ => zg (k := 7) (fun _ => by kernel_rfl) rfl ⟨rfl, rfl⟩) (zn 3 rfl (by kernel_rfl) (fun w_ h_ => zj (v := x1) Tryz.underlying37 rfl rfl h_ (zh 0 rfl) (CellsAt.field (k := 7) (ds := [x1]) hc3 rfl) ⟨rfl, rfl⟩) (zn 4 rfl (by kernel_rfl) (fun w_ h_ => zQ Tryz.underlying37 rfl f2 ⟨rfl, rfl⟩) (zn 5 rfl (by kernel_rfl) (fun w_ h_ => zb (yp sb) rfl ⟨rfl, rfl⟩) (zn 6 rfl (by kernel_rfl) (fun w_ h_ => zl rfl ⟨rfl, rfl⟩) (zn 7 rfl (by kernel_rfl) (fun w_ h_ => zg (k := 9) (fun _ => by kernel_rfl) rfl ⟨rfl, rfl⟩) (zn 8 rfl (by kernel_rfl) (fun w_ h_ => zj (v := (yi v.flushed)) Tryz.underlying3 rfl rfl h_ (zh 0 rfl) (CellsAt.field (k := 9) (ds := [(yi v.flushed)]) hc3 rfl) ⟨rfl, rfl⟩) (zM (by kernel_rfl) hH8 (zO 9 rfl (by kernel_rfl) (o_sub (a := ((v.l.length : Nat) : Int)) (b := v.flushed) rfl rfl (w64 (by omega) (by omega)) (zO 10 rfl (by kernel_rfl) (zc (yi (((v.l.length : Nat) : Int) - v.flushed)) rfl (Rest.done (by kernel_rfl) (ze (hK7 _ _ ?_)))))))))))))))))
 refine wp_ret (zr Tryz.results37  (v := (yi (((v.l.length : Nat) : Int) - v.flushed))) rfl ?_)
 have q9 : ((v.l.length : Int) - v.flushed) = ((v.l.length : Nat) : Int) - v.flushed := by rfl
 exact ⟨by rw [q9], hH8⟩
theorem sfree_c {E w : World} {R : List Hp} {sb : Nat} {db : Nat} {ab : Nat} {v : StmS} {n : Int} (hH : Has E w [R]) (h_sb : StmRd db ab R sb v) (h_ab : CellsAt R ab 0 [.pointer (some ⟨db, 0, none⟩), .int .i64 2, .int .i64 n]) (hok : StmOk n v) :
  Calls Tryz.prog 38 #[(yp sb)] w fun e w' => e = .returned (yi (freeV n v)) ∧ Has E w' [R] := by
 obtain ⟨hle1_, hle2_⟩ := hok.le
 obtain ⟨hn1_, hn2_⟩ := hok.num
 obtain ⟨hm1_, hm2_⟩ := hok.mrk
 obtain ⟨hs1_, hs2_⟩ := hok.st
 have ht_ := hok.tail
 obtain ⟨hr1_, hr2_⟩ := hok.res
 obtain ⟨hf1_, hf2_⟩ := hok.fl
 obtain ⟨hla1_, hla2_, hla3_⟩ := last_le hok
 have hfv_ : freeV n v = n * 64 - (v.tail - v.st) - v.res := rfl
 obtain ⟨x1, hc3, f2⟩ := h_sb
 have f2_n := f2.le
 refine zs (args := [(yp sb)]) Tryz.func38 rfl Tryz.ntmps38 (by simp) (yq fun K4 hK4 => (zd (za (zc (yi 0) rfl (zf (ze (hK4 _ _ (yq fun K5 hK5 => (yq fun K6 hK6 => (zd (za (zb (yp sb) rfl (za (o_pnil (p := some _) Tryz.underlying34 rfl rfl (zf (ze (hK6 _ _ (zK rfl rfl (wp_skip ?_)))))))))))))))))))
 refine ze (hK5 _ _ (yq fun K7 hK7 => (Rest.region mixed (by kernel_rfl) ?_)))
 have hH8 : Has E { w with drawn := w.drawn + 1 } [R] := Has0.drew hH _
 refine Rest.phaseA (fun w_ => Has E w_ [R]) 0 21 21 rfl (by decide) (by kernel_rfl) (zn 0 rfl (by kernel_rfl) (fun w_ h_ => zb (yp sb) rfl ⟨rfl, rfl⟩) (zn 1 rfl (by kernel_rfl) (fun w_ h_ => zl rfl ⟨rfl, rfl⟩) (zn 2 rfl (by kernel_rfl) (fun w_ h_ => zg (k := 6) (fun _ => by kernel_rfl) rfl ⟨rfl, rfl⟩) (zn 3 rfl (by kernel_rfl) (fun w_ h_ => zj (v := (yp ab)) Tryz.underlying160 rfl rfl h_ (zh 0 rfl) (CellsAt.field (k := 6) (ds := [(yp ab)]) hc3 rfl) ⟨rfl, rfl⟩) (zn 5 rfl (by kernel_rfl) (fun w_ h_ => zb (yp sb) rfl ⟨rfl, rfl⟩) (zn 6 rfl (by kernel_rfl) (fun w_ h_ => zl rfl ⟨rfl, rfl⟩) (zn 7 rfl (by kernel_rfl) (fun w_ h_ => zg (k := 8) (fun _ => by kernel_rfl) rfl ⟨rfl, rfl⟩) (zn 8 rfl (by kernel_rfl) (fun w_ h_ => zj (v := (yi v.tail)) Tryz.underlying3 rfl rfl h_ (zh 0 rfl) (CellsAt.field (k := 8) (ds := [(yi v.tail)]) hc3 rfl) ⟨rfl, rfl⟩) (zn 9 rfl (by kernel_rfl) (fun w_ h_ => zb (yp sb) rfl ⟨rfl, rfl⟩) (zn 10 rfl (by kernel_rfl) (fun w_ h_ => zl rfl ⟨rfl, rfl⟩) (zn 11 rfl (by kernel_rfl) (fun w_ h_ => zg (k := 0) (fun _ => by kernel_rfl) rfl ⟨rfl, rfl⟩) (zn 12 rfl (by kernel_rfl) (fun w_ h_ => zg (k := 0) (fun _ => by kernel_rfl) rfl ⟨rfl, rfl⟩) (zn 13 rfl (by kernel_rfl) (fun w_ h_ => zg (k := 3) (fun _ => by kernel_rfl) rfl ⟨rfl, rfl⟩) (zn 14 rfl (by kernel_rfl) (fun w_ h_ => zj (v := (yi v.st)) Tryz.underlying3 rfl rfl h_ (zh 0 rfl) (CellsAt.field (k := 3) (ds := [(yi v.st)]) (CellsAt.field (k := 0) (ds := [(yi v.seq), (yi v.ep), (yi v.hcut), (yi v.st), (yi v.mrk)]) (CellsAt.field (k := 0) (ds := [(yi v.seq), (yi v.ep), (yi v.hcut), (yi v.st), (yi v.mrk)]) hc3 rfl) rfl) rfl) ⟨rfl, rfl⟩) ?_))))))))))))))
 refine zn 15 rfl (by kernel_rfl) (fun w_ h_ => o_sub (a := v.tail) (b := v.st) rfl rfl (w64 (by omega) (by omega)) ⟨rfl, rfl⟩) (zn 17 rfl (by kernel_rfl) (fun w_ h_ => zb (yp sb) rfl ⟨rfl, rfl⟩) (zn 18 rfl (by kernel_rfl) (fun w_ h_ => zl rfl ⟨rfl, rfl⟩) (zn 19 rfl (by kernel_rfl) (fun w_ h_ => zg (k := 10) (fun _ => by kernel_rfl) rfl ⟨rfl, rfl⟩) (zn 20 rfl (by kernel_rfl) (fun w_ h_ => zj (v := (yi v.res)) Tryz.underlying3 rfl rfl h_ (zh 0 rfl) (CellsAt.field (k := 10) (ds := [(yi v.res)]) hc3 rfl) ⟨rfl, rfl⟩) (a_w 4 rfl (by kernel_rfl) hH8 (zk (vs := #[(yp ab)]) ca99 rfl (zI rfl) (alenr_c hH8.all (db := db) (fr := 2) (n := n) (h_ab.mono (zh 0 rfl)) ⟨by omega, by omega⟩) ?_))))))
 rintro _ w11 ⟨rfl, hX9⟩
 refine ⟨_, rfl, ?_⟩
 have hH10 := hX9.of_all
 refine zn 16 rfl (by kernel_rfl) (fun w_ h_ => o_sub (a := n * 64) (b := v.tail - v.st) rfl rfl (w64 (by omega) (by omega)) ⟨rfl, rfl⟩) (zM (by kernel_rfl) hH10 (zO 21 rfl (by kernel_rfl) (o_sub (a := (n * 64) - (v.tail - v.st)) (b := v.res) rfl rfl (w64 (by omega) (by omega)) (zO 22 rfl (by kernel_rfl) (zc (yi (((n * 64) - (v.tail - v.st)) - v.res)) rfl (Rest.done (by kernel_rfl) (ze (hK7 _ _ (wp_ret (zr Tryz.results38  (v := (yi (((n * 64) - (v.tail - v.st)) - v.res))) rfl ?_))))))))))
 have q12 : (freeV n v) = ((n * 64) - (v.tail - v.st)) - v.res := by rfl
 exact ⟨by rw [q12], hH10⟩
theorem smay_c {E w : World} {R : List Hp} {sb : Nat} {db : Nat} {ab : Nat} {v : StmS} {g : Int} {size : Int} {n : Int} (hH : Has E w [R]) (h_sb : StmRd db ab R sb v) (hok : StmOk n v) :
  Calls Tryz.prog 119 #[(yp sb), (yi g), (yi size)] w fun e w' => e = .returned (yi (mayL v g size)) ∧ Has E w' [R] := by
 obtain ⟨hle1_, hle2_⟩ := hok.le
 obtain ⟨hn1_, hn2_⟩ := hok.num
 obtain ⟨hm1_, hm2_⟩ := hok.mrk
 obtain ⟨hs1_, hs2_⟩ := hok.st
 have ht_ := hok.tail
 obtain ⟨hr1_, hr2_⟩ := hok.res
 obtain ⟨hf1_, hf2_⟩ := hok.fl
 obtain ⟨hla1_, hla2_, hla3_⟩ := last_le hok
 have hfv_ : freeV n v = n * 64 - (v.tail - v.st) - v.res := rfl
 obtain ⟨x1, hc3, f2⟩ := h_sb
 have f2_n := f2.le
 refine zs (args := [(yp sb), (yi g), (yi size)]) Tryz.func119 rfl Tryz.ntmps119 (by simp) (yq fun K4 hK4 => (zd (za (zc (yi 0) rfl (zf (ze (hK4 _ _ (yq fun K5 hK5 => (yq fun K6 hK6 => (zd (za (zb (yp sb) rfl (za (zk (vs := #[(yp sb)]) ca106 rfl (zI rfl) (sready_c (v := v) (db := db) (ab := ab) hH.all ((StmRd.mk hc3 f2).mono (zh 0 rfl))) ?_))))))))))))))
 rintro _ w9 ⟨rfl, hX7⟩
 refine ⟨_, rfl, ?_⟩
 have hH8 := hX7.of_all
 refine za (zc (yi (readyE v)) rfl (zf (ze (hK6 _ _ (yq fun K10 hK10 => (zd (za (zb (yi (readyE v)) rfl (za (o_neq (a := (readyE v)) (b := 0) rfl rfl (zf (ze (hK10 _ _ (zt rfl (fun h11 => ?_) (fun h11 => ?_)))))))))))))))
 ·
  refine yq fun K12 hK12 => (zd (za (zb (yi (readyE v)) rfl (za (zc (yi (readyE v)) rfl (zf (ze (hK12 _ _ (wp_ret (zx (zr Tryz.results119  (v := (yi (readyE v))) rfl ?_)))))))))))
  have q13 : (mayL v g size) = (readyE v) := by unfold mayL; rw [if_pos h11]
  exact ⟨by rw [q13], hH8⟩
 ·
  refine wp_skip (ze (hK5 _ _ (yq fun K14 hK14 => (yq fun K15 hK15 => (zd (za (zb (yi g) rfl (za (zb (yp sb) rfl (za (zk (vs := #[(yp sb)]) ca29 rfl (zI rfl) (slast_c (v := v) (db := db) (ab := ab) (n := n) hH8.all ((StmRd.mk hc3 f2).mono (zh 0 rfl)) hok) ?_)))))))))))
  rintro _ w18 ⟨rfl, hX16⟩
  refine ⟨_, rfl, ?_⟩
  have hH17 := hX16.of_all
  refine za (o_leq (a := g) (b := (lastV v)) rfl rfl (za (zb (.bool (decide (g ≤ (lastV v)))) rfl ?_)))
  by_cases h19 : g ≤ (lastV v)
  ·
   refine zi (b' := true) 17 rfl (cT h19) rfl (zi (b' := true) 17 rfl (cT h19) rfl (za (zq (u := (.bool true)) ((rfl : _ = _).trans (cT h19)) rfl (za (zb (.bool true) rfl (zi (b' := true) 21 rfl rfl rfl (zi (b' := true) 21 rfl rfl rfl (za (zq (u := (.bool true)) rfl rfl (zf (ze (hK15 _ _ (zP rfl rfl (yq fun K20 hK20 => (zd (za (zc (yi 1) rfl (zf (ze (hK20 _ _ ?_))))))))))))))))))))
   refine wp_ret (zx (zr Tryz.results119  (v := (yi 1)) rfl ?_))
   have q21 : (mayL v g size) = 1 := by unfold mayL; rw [if_neg h11]; first | (rw [if_pos (by omega)]; done) | (rw [if_neg (by omega)]; done)
   exact ⟨by rw [q21], hH17⟩
  ·
   refine zo 17 rfl (cF h19) (zb (yi g) rfl (zo 17 rfl (cF h19) (o_gtr (a := g) (b := 4611686018427387903) rfl rfl (za (zm (u := (.bool (decide (4611686018427387903 < g)))) ((rfl : _ = _).trans (cF h19)) rfl (za (zb (.bool (decide (4611686018427387903 < g))) rfl ?_)))))))
   by_cases h22 : 4611686018427387903 < g
   ·
    refine zi (b' := true) 21 rfl (cT h22) rfl (zi (b' := true) 21 rfl (cT h22) rfl (za (zq (u := (.bool true)) ((rfl : _ = _).trans (cT h22)) rfl (zf (ze (hK15 _ _ (zP rfl rfl (yq fun K23 hK23 => (zd (za (zc (yi 1) rfl (zf (ze (hK23 _ _ (wp_ret (zx (zr Tryz.results119  (v := (yi 1)) rfl ?_)))))))))))))))))
    have q24 : (mayL v g size) = 1 := by unfold mayL; rw [if_neg h11]; first | (rw [if_pos (by omega)]; done) | (rw [if_neg (by omega)]; done)
    exact ⟨by rw [q24], hH17⟩
   ·
    refine zo 21 rfl (cF h22) (zb (yi size) rfl (zo 21 rfl (cF h22) (o_gtr (a := size) (b := 200) rfl rfl (za (zm (u := (.bool (decide (200 < size)))) ((rfl : _ = _).trans (cF h22)) rfl (zf (ze (hK15 _ _ (zt rfl (fun h25 => ?_) (fun h25 => ?_))))))))))
    ·
     refine yq fun K26 hK26 => (zd (za (zc (yi 1) rfl (zf (ze (hK26 _ _ (wp_ret (zx (zr Tryz.results119  (v := (yi 1)) rfl ?_)))))))))
     have q27 : (mayL v g size) = 1 := by unfold mayL; rw [if_neg h11]; first | (rw [if_pos (by omega)]; done) | (rw [if_neg (by omega)]; done)
     exact ⟨by rw [q27], hH17⟩
    ·
     refine wp_skip (ze (hK14 _ _ (yq fun K28 hK28 => (zd (za (zc (yi 0) rfl (zf (ze (hK28 _ _ (wp_ret (zr Tryz.results119  (v := (yi 0)) rfl ?_)))))))))))
     have q29 : (mayL v g size) = 0 := by unfold mayL; rw [if_neg h11]; first | (rw [if_pos (by omega)]; done) | (rw [if_neg (by omega)]; done)
     exact ⟨by rw [q29], hH17⟩
end Go.Q
namespace Go.Q
open Go.Proofs
set_option linter.unusedVariables false
set_option maxRecDepth 100000
attribute [local irreducible] wpList OK Code.wp
theorem inan_c {E w : World} {R : List Hp} {a : Int}  (hH : Has E w [R]) :
  Calls Tryz.prog 217 #[(yi a)] w fun e w' => e = .returned (.bool false) ∧ Has E w' [R] := by
 refine zs (args := [(yi a)]) Tryz.func217 rfl Tryz.ntmps217 (by simp) (yq fun K1 hK1 => (zd (za (zc (.bool false) rfl (zf (ze (hK1 _ _ (yq fun K2 hK2 => (zd (za (zb (yi a) rfl (za (zb (yi a) rfl (za (o_neq (a := a) (b := a) rfl rfl (za (zc (.bool (decide (a ≠ a))) rfl (zf (ze (hK2 _ _ (wp_ret ?_)))))))))))))))))))))
 refine zr Tryz.results217  (v := (.bool (decide (a ≠ a)))) rfl ?_
 have q3 : decide (a ≠ a) = false := by simp
 exact ⟨by rw [q3], hH⟩
theorem icmp_c {E w : World} {R : List Hp} {a : Int} {b : Int}  (hH : Has E w [R]) :
  Calls Tryz.prog 133 #[(yi a), (yi b)] w fun e w' => e = .returned (yi (cmpI a b)) ∧ Has E w' [R] := by
 refine zs (args := [(yi a), (yi b)]) Tryz.func133 rfl Tryz.ntmps133 (by simp) (yq fun K1 hK1 => (zd (za (zc (yi 0) rfl (zf (ze (hK1 _ _ (yq fun K2 hK2 => (zd (za (zb (yi a) rfl (za (zk (vs := #[(yi a)]) ca217 rfl (zI rfl) (inan_c (a := a) hH.all ) ?_)))))))))))))
 rintro _ w5 ⟨rfl, hX3⟩
 refine ⟨_, rfl, ?_⟩
 have hH4 := hX3.of_all
 refine za (zc (.bool false) rfl (zf (ze (hK2 _ _ (yq fun K6 hK6 => (zd (za (zb (yi b) rfl (za (zk (vs := #[(yi b)]) ca217 rfl (zI rfl) (inan_c (a := b) hH4.all ) ?_))))))))))
 rintro _ w9 ⟨rfl, hX7⟩
 refine ⟨_, rfl, ?_⟩
 have hH8 := hX7.of_all
 refine za (zc (.bool false) rfl (zf (ze (hK6 _ _ (yq fun K10 hK10 => (yq fun K11 hK11 => (zd (za (zb (.bool false) rfl (zf (ze (hK11 _ _ (zK rfl rfl (wp_skip (ze (hK10 _ _ (yq fun K12 hK12 => (yq fun K13 hK13 => (zd ?_)))))))))))))))))))
 refine za (zb (.bool false) rfl (zf (ze (hK13 _ _ (zK rfl rfl (wp_skip (ze (hK12 _ _ (yq fun K14 hK14 => (yq fun K15 hK15 => (zd (za (zb (yi a) rfl (za (zb (yi b) rfl (za (zL (a := a) (b := b) rfl rfl (zf (ze (hK15 _ _ (zt rfl (fun h16 => ?_) (fun h16 => ?_))))))))))))))))))))))
 ·
  refine yq fun K17 hK17 => (zd (za (zc (yi (-1)) rfl (zf (ze (hK17 _ _ (wp_ret (zx (zr Tryz.results133  (v := (yi (-1))) rfl ?_)))))))))
  have q18 : (cmpI a b) = -1 := by unfold cmpI; simp [h16]
  exact ⟨by rw [q18], hH8⟩
 ·
  refine wp_skip (ze (hK14 _ _ (yq fun K19 hK19 => (yq fun K20 hK20 => (zd (za (zb (yi a) rfl (za (zb (yi b) rfl (za (o_gtr (a := a) (b := b) rfl rfl (zf (ze (hK20 _ _ (zt rfl (fun h21 => ?_) (fun h21 => ?_))))))))))))))))
  ·
   refine yq fun K22 hK22 => (zd (za (zc (yi 1) rfl (zf (ze (hK22 _ _ (wp_ret (zx (zr Tryz.results133  (v := (yi 1)) rfl ?_)))))))))
   have q23 : (cmpI a b) = 1 := by unfold cmpI; simp [h16, h21]
   exact ⟨by rw [q23], hH8⟩
  ·
   refine wp_skip (ze (hK19 _ _ (yq fun K24 hK24 => (zd (za (zc (yi 0) rfl (zf (ze (hK24 _ _ (wp_ret (zr Tryz.results133  (v := (yi 0)) rfl ?_)))))))))))
   have q25 : (cmpI a b) = 0 := by unfold cmpI; simp [h16, h21]
   exact ⟨by rw [q25], hH8⟩
theorem placef_c {E w : World} {R : List Hp} {c : LEnt} {key : Int}  (hH : Has E w [R]) :
  Calls Tryz.prog 196 #[(.agg #[(yi c.gsn), (yi c.at_), (S c.data)]), (yi key)] w fun e w' => e = .returned (yi (cmpI c.gsn key)) ∧ Has E w' [R] := by
 refine zs (args := [(.agg #[(yi c.gsn), (yi c.at_), (S c.data)]), (yi key)]) Tryz.func196 rfl Tryz.ntmps196 (by simp) (yq fun K1 hK1 => (zd (za (o_box (cs := #[(yi c.gsn), (yi c.at_), (S c.data)]) rfl rfl hH fun b2 w3 hH4 => (za (zc (yi 0) rfl (zf (ze (hK1 _ _ (yq fun K5 hK5 => (zd (za (zg (k := 0) (fun _ => by kernel_rfl) rfl (za (zj (v := (yi c.gsn)) Tryz.underlying3 rfl rfl hH4 (zh 0 rfl) (CellsAt.one rfl) (za (zb (yi key) rfl (za (zk (vs := #[(yi c.gsn), (yi key)]) ca133 rfl (zF rfl rfl) (icmp_c (a := c.gsn) (b := key) hH4.all ) ?_)))))))))))))))))))
 rintro _ w8 ⟨rfl, hX6⟩
 refine ⟨_, rfl, ?_⟩
 have hH7 := hX6.of_all
 refine za (zc (yi (cmpI c.gsn key)) rfl (zf (ze (hK5 _ _ (wp_ret (zr Tryz.results196  (v := (yi (cmpI c.gsn key))) rfl ?_))))))
 have hH9 := (hH7.front 1 rfl).first 1 rfl
 exact ⟨rfl, hH9⟩
theorem ebs_c {E w : World} {R : List Hp} {v_l : Value} {l : List LEnt} {key : Int}   (hH : Has E w [R]) (h_l : Sl R 3 v_l l.length (l.flatMap enC)) (hs : RisesE l) (hl : l.length ≤ 1000000) :
  Calls Tryz.prog 195 #[v_l, (yi key), (.func (.func 196) #[] #[])] w fun e w' => e = .returned (.tuple #[(yi (posE l key)), (.bool (hasE l key))]) ∧ Has E w' [R] := by
 have hn_ := h_l.le
 refine zs (args := [v_l, (yi key), (.func (.func 196) #[] #[])]) Tryz.func195 rfl Tryz.ntmps195 (by simp) (yq fun K1 hK1 => (zd (za (zc (yi 0) rfl (za (zc (.bool false) rfl (zf (ze (hK1 _ _ (yq fun K2 hK2 => (zd (za (zb v_l rfl (za (zQ Tryz.underlying37 rfl h_l (za (zc (yi ((l.length : Nat) : Int)) rfl (zf (ze (hK2 _ _ (yq fun K3 hK3 => ?_)))))))))))))))))))))
 refine zd (za (zb (yi ((l.length : Nat) : Int)) rfl (za (zc (yi 0) rfl (za (zc (yi ((l.length : Nat) : Int)) rfl (zf (ze (hK3 _ _ (yq fun K4 hK4 => (wp_block ?_)))))))))))
 let I6 : Nat → (Nat → Value) → World → Prop := fun n__ r__ w__ => ∃ (i : Int) (j : Int), n__ = (j - i).toNat ∧ Has E w__ [R] ∧ (0 ≤ i) ∧ (i ≤ j) ∧ (j ≤ (l.length : Int)) ∧ (∀ a ∈ l.take i.toNat, a.gsn < key) ∧ (∀ a ∈ l.drop j.toNat, ¬ a.gsn < key) ∧ r__ 0 = v_l ∧ r__ 1 = (yi key) ∧ r__ 2 = (.func (.func 196) #[] #[]) ∧ r__ 6 = (yi 0) ∧ r__ 7 = (.bool false) ∧ r__ 8 = (yi ((l.length : Nat) : Int)) ∧ r__ 9 = (yi i) ∧ r__ 10 = (yi j)
 refine zX I6 _ ⟨0, (l.length : Int), rfl, hH, (by omega), (by omega), (by omega), (by simp), (by simp), rfl, rfl, rfl, rfl, rfl, rfl, rfl, rfl⟩ ?_
 rintro n_ r9 w7 ⟨i, j, rfl, hH8, hi0, hij, hj, hlo, hhi, e5_0, e5_1, e5_2, e5_6, e5_7, e5_8, e5_9, e5_10⟩
 refine yq fun K10 hK10 => (yq fun K11 hK11 => (zd (za (zb (yi i) e5_9 (za (zb (yi j) e5_10 (za (zL (a := i) (b := j) rfl rfl (zf (ze (hK11 _ _ (zt rfl (fun h12 => ?_) (fun h12 => ?_)))))))))))))
 ·
  refine wp_skip (ze (hK10 _ _ (wp_block (yq fun K13 hK13 => (zd (za (zb (yi i) e5_9 (za (zb (yi j) e5_10 (za (zD (a := i) (b := j) rfl rfl (w64 (by omega) (by omega)) (za (o_conv (c := (i + j)) Tryz.underlying3 Tryz.underlying65 rfl (wu64 (by omega) (by omega)) (za (o_shr (c := (i + j) / 2) rfl rfl (by omega) (shr_lit _ (by omega) rfl) (za (o_conv (c := ((i + j) / 2)) Tryz.underlying65 Tryz.underlying3 rfl (w64 (by omega) (by omega)) (za (zc (yi ((i + j) / 2)) rfl (zf (ze (hK13 _ _ (yq fun K14 hK14 => ?_)))))))))))))))))))))))
  refine zd (za (zb (.func (.func 196) #[] #[]) e5_2 (za (zb v_l e5_0 (za (zb (yi ((i + j) / 2)) rfl ?_))))))
  obtain ⟨x18, hx19⟩ : ∃ x_, l[((i + j) / 2).toNat]? = some x_ := zN (by omega)
  refine za (o_indexF enC_len Tryz.underlying37 ti42 rfl h_l rfl rfl (by omega) hx19 fun b15 o16 hc17 => (za (zG (cs := [(yi x18.gsn), (yi x18.at_), (S x18.data)]) Tryz.underlying42 rfl ti42 rfl hH8 (zh 0 rfl) hc17 (za (zb (yi key) e5_1 (za (zk (vs := #[(.agg #[(yi x18.gsn), (yi x18.at_), (S x18.data)]), (yi key)]) ca196 rfl (zF rfl rfl) (placef_c (c := (LEnt.mk x18.gsn x18.at_ x18.data)) (key := key) hH8.all ) ?_)))))))
  rintro _ w22 ⟨rfl, hX20⟩
  refine ⟨_, rfl, ?_⟩
  have hH21 := hX20.of_all
  refine za (zL (a := (cmpI (LEnt.mk x18.gsn x18.at_ x18.data).gsn key)) (b := 0) rfl rfl (zf (ze (hK14 _ _ (zt rfl (fun h23 => ?_) (fun h23 => ?_))))))
  ·
   refine zd (za (zb (yi ((i + j) / 2)) rfl (za (zD (a := (i + j) / 2) (b := 1) rfl rfl (w64 (by omega) (by omega)) (za (zc (yi (((i + j) / 2) + 1)) rfl (zf (zC (ze ⟨(j - (((i + j) / 2) + 1)).toNat, _, rfl, ?_, ?_⟩)))))))))
   · omega
   · exact ⟨(((i + j) / 2) + 1), j, rfl, hH21, (by omega), (by omega), (by omega), (by rw [show (((i + j) / 2) + 1).toNat = ((i + j) / 2).toNat + 1 from by omega]; exact lo_stepE hs hx19 (cmpI_neg.1 h23)), (hhi), e5_0, e5_1, e5_2, e5_6, e5_7, e5_8, rfl, e5_10⟩
  ·
   refine zd (za (zb (yi ((i + j) / 2)) rfl (za (zc (yi ((i + j) / 2)) rfl (zf (zC (ze ⟨(((i + j) / 2) - i).toNat, _, rfl, ?_, ?_⟩)))))))
   · omega
   · exact ⟨i, ((i + j) / 2), rfl, hH21, (by omega), (by omega), (by omega), (hlo), (hi_stepE hs hx19 (fun g_ => h23 (cmpI_neg.2 g_))), e5_0, e5_1, e5_2, e5_6, e5_7, e5_8, e5_9, rfl⟩
 ·
  refine wp_exit (zy (zy (x_in ((ze (hK4 _ _ (yq fun K24 hK24 => (zd (za (zb (yi i) e5_9 (za (zb (yi i) e5_9 (za (zb (yi ((l.length : Nat) : Int)) e5_8 (za (zL (a := i) (b := ((l.length : Nat) : Int)) rfl rfl (za (zb (.bool (decide (i < ((l.length : Nat) : Int)))) rfl ?_))))))))))))))))))
  by_cases h25 : i < ((l.length : Nat) : Int)
  ·
   refine zo 39 rfl (cT h25) (zb (.func (.func 196) #[] #[]) e5_2 (zo 39 rfl (cT h25) (zb v_l e5_0 (zo 39 rfl (cT h25) (zb (yi i) e5_9 ?_)))))
   obtain ⟨x29, hx30⟩ : ∃ x_, l[(i).toNat]? = some x_ := zN (by omega)
   refine zo 39 rfl (cT h25) (o_indexF enC_len Tryz.underlying37 ti42 rfl h_l rfl rfl (by omega) hx30 fun b26 o27 hc28 => (zo 39 rfl (cT h25) (zG (cs := [(yi x29.gsn), (yi x29.at_), (S x29.data)]) Tryz.underlying42 rfl ti42 rfl hH8 (zh 0 rfl) hc28 (zo 39 rfl (cT h25) (zb (yi key) e5_1 (zo 39 rfl (cT h25) (zk (vs := #[(.agg #[(yi x29.gsn), (yi x29.at_), (S x29.data)]), (yi key)]) ca196 rfl (zF rfl rfl) (placef_c (c := (LEnt.mk x29.gsn x29.at_ x29.data)) (key := key) hH8.all ) ?_)))))))
   rintro _ w33 ⟨rfl, hX31⟩
   refine ⟨_, rfl, ?_⟩
   have hH32 := hX31.of_all
   refine zo 39 rfl (cT h25) (yc (a := (cmpI (LEnt.mk x29.gsn x29.at_ x29.data).gsn key)) (b := 0) rfl rfl (za (zq (u := (.bool (decide ((cmpI (LEnt.mk x29.gsn x29.at_ x29.data).gsn key) = 0)))) ((rfl : _ = _).trans (cT h25)) rfl (za (zc (yi i) rfl (za (zc (.bool (decide ((cmpI (LEnt.mk x29.gsn x29.at_ x29.data).gsn key) = 0))) rfl (zf (ze (hK24 _ _ (wp_ret (ya Tryz.results195  (v := (yi i)) rfl (x := (.bool (decide ((cmpI (LEnt.mk x29.gsn x29.at_ x29.data).gsn key) = 0)))) rfl ?_))))))))))))
   have e_ : i = j := by omega
   subst e_
   have hp_ : posE l key = i := by rw [posE_at (i := i.toNat) (by omega) hlo hhi]; omega
   have hh_ : hasE l key = decide (cmpI x29.gsn key = 0) := by (by_cases g_ : cmpI x29.gsn key = 0; rw [decide_eq_true g_]; exact hasE_yes hx30 (cmpI_zero.1 g_); rw [decide_eq_false g_]; exact hasE_no hs hlo hhi (fun a_ ha_ e_ => g_ (by rw [hx30] at ha_; cases ha_; exact cmpI_zero.2 e_)))
   exact ⟨by rw [hp_, hh_], hH32⟩
  ·
   refine zi (b' := false) 39 rfl (cF h25) rfl (zi (b' := false) 39 rfl (cF h25) rfl (zi (b' := false) 39 rfl (cF h25) rfl (zi (b' := false) 39 rfl (cF h25) rfl (zi (b' := false) 39 rfl (cF h25) rfl (zi (b' := false) 39 rfl (cF h25) rfl (zi (b' := false) 39 rfl (cF h25) rfl (zi (b' := false) 39 rfl (cF h25) rfl (za (zm (u := (.bool false)) ((rfl : _ = _).trans (cF h25)) rfl (za (zc (yi i) rfl (za (zc (.bool false) rfl (zf (ze (hK24 _ _ (wp_ret (ya Tryz.results195  (v := (yi i)) rfl (x := (.bool false)) rfl ?_))))))))))))))))))
   have e_ : i = j := by omega
   subst e_
   have hp_ : posE l key = i := by rw [posE_at (i := i.toNat) (by omega) hlo hhi]; omega
   have hh_ : hasE l key = false := hasE_no hs hlo hhi (fun a_ ha_ => absurd (List.getElem?_eq_some_iff.1 ha_).1 (by omega))
   exact ⟨by rw [hp_, hh_], hH8⟩
theorem splace_c {E w : World} {R : List Hp} {sb : Nat} {db : Nat} {ab : Nat} {v : StmS} {g : Int} {n : Int} (hH : Has E w [R]) (h_sb : StmRd db ab R sb v) (hok : StmOk n v) :
  Calls Tryz.prog 102 #[(yp sb), (yi g)] w fun e w' => e = .returned (yi (posE v.l g)) ∧ Has E w' [R] := by
 obtain ⟨hle1_, hle2_⟩ := hok.le
 obtain ⟨hn1_, hn2_⟩ := hok.num
 obtain ⟨hm1_, hm2_⟩ := hok.mrk
 obtain ⟨hs1_, hs2_⟩ := hok.st
 have ht_ := hok.tail
 obtain ⟨hr1_, hr2_⟩ := hok.res
 obtain ⟨hf1_, hf2_⟩ := hok.fl
 obtain ⟨hla1_, hla2_, hla3_⟩ := last_le hok
 have hfv_ : freeV n v = n * 64 - (v.tail - v.st) - v.res := rfl
 obtain ⟨x1, hc3, f2⟩ := h_sb
 have f2_n := f2.le
 refine zs (args := [(yp sb), (yi g)]) Tryz.func102 rfl Tryz.ntmps102 (by simp) (yq fun K4 hK4 => (zd (za (zc (yi 0) rfl (zf (ze (hK4 _ _ (yq fun K5 hK5 => (zd (za (zb (yp sb) rfl (za (zl rfl (za (zg (k := 7) (fun _ => by kernel_rfl) rfl (za (zj (v := x1) Tryz.underlying37 rfl rfl hH (zh 0 rfl) (CellsAt.field (k := 7) (ds := [x1]) hc3 rfl) (za (zb (yi g) rfl (za (zk (vs := #[x1, (yi g), (.func (.func 196) #[] #[])]) ca195 rfl (args3 rfl rfl rfl) (ebs_c (l := v.l) (key := g) hH.all (f2.mono (zh 0 rfl)) hok.rise (by first | omega | (simp only []; omega) | (simp; done) | (simp; omega))) ?_)))))))))))))))))))))
 rintro _ w8 ⟨rfl, hX6⟩
 refine ⟨_, rfl, ?_⟩
 have hH7 := hX6.of_all
 have hpe_ := posE_le v.l g
 refine za (zb (.tuple #[(yi (posE v.l g)), (.bool (hasE v.l g))]) rfl (za (zp (v := (yi (posE v.l g))) rfl rfl (za (zp (v := (.bool (hasE v.l g))) rfl rfl (za (zc (yi (posE v.l g)) rfl (za (zc (.bool (hasE v.l g)) rfl (zf (ze (hK5 _ _ (yq fun K9 hK9 => (zd (za (zb (yi (posE v.l g)) rfl (za (zc (yi (posE v.l g)) rfl (zf (ze (hK9 _ _ (wp_ret (zr Tryz.results102  (v := (yi (posE v.l g))) rfl ?_)))))))))))))))))))))))
 exact ⟨rfl, hH7⟩
end Go.Q
namespace Go.Q
open Go.Proofs
set_option linter.unusedVariables false
set_option maxRecDepth 100000
attribute [local irreducible] wpList OK Code.wp
theorem eclone_c_p {E w : World} {R : List Hp} (hH : Has E w [R]) {p : Option Addr} {cap : Nat} {l : List LEnt} (hv : Sl R 3 (.slice p l.length cap) l.length (l.flatMap enC)) (hl : l.length ≤ 1000000) :
  Calls Tryz.prog 101 #[(.slice p l.length cap)] w fun e w' => ∃ v' hs', e = .returned v' ∧ Own 42 3 v' l.length (l.flatMap enC) hs' ∧ Has E w' [hs', R] := by
 refine zs (args := [(.slice p l.length cap)]) Tryz.func101 rfl Tryz.ntmps101 (by simp) (yq fun K1 hK1 => (zd (za (zc (.slice none 0 0) rfl (zf (ze (hK1 _ _ (yq fun K2 hK2 => (yq fun K3 hK3 => (zd (za (zb (.slice p l.length cap) rfl (za (o_snil Tryz.underlying37 rfl rfl (zf (ze (hK3 _ _ (z7 rfl (fun h4 => ?_) (fun h4 => ?_)))))))))))))))))))
 ·
  refine yq fun K5 hK5 => (zd (za (zc (.slice none 0 0) rfl (zf (ze (hK5 _ _ (wp_ret (zx (zr Tryz.results101  (v := (.slice none 0 0)) rfl ?_)))))))))
  have e0 : l = [] := List.eq_nil_of_length_eq_zero (by obtain rfl : p = none := (by simpa using h4); exact sl_nil0 hv)
  subst e0
  exact ⟨_, _, rfl, Own.nil 42 3, Has.nil hH⟩
 ·
  refine wp_skip (ze (hK2 _ _ (yq fun K6 hK6 => (zd (za (zw (ps := #[]) (cells := #[]) Tryz.underlying37 ti42 (by decide) (parts0) (by kernel_rfl) hH fun b7 w8 hH9 => (za (zb (.slice p l.length cap) rfl (za (o_append Tryz.underlying37 ti42 rfl (by decide) rfl (Own.lit (e := 42) (sz := 3) (n := 0) (b := b7) (cur := #[]) rfl (by decide)) rfl hv (hH9.front 0 rfl) (zh 0 rfl) (one_enC _) (by simp; omega) (by simp; omega) fun v10 s11 w13 ho12 hH14 => ?_))))))))))
  have ho12 : Own 42 3 v10 l.length (l.flatMap enC) s11 := Own.appF (a := []) ho12
  refine za (zc v10 rfl (zf (ze (hK6 _ _ (wp_ret (zr Tryz.results101  (v := v10) rfl ?_))))))
  exact ⟨_, _, rfl, by simpa using ho12, hH14⟩
theorem eclone_c {E w : World} {R : List Hp} {v_l : Value} {l : List LEnt} (hH : Has E w [R]) (h_l : Sl R 3 v_l l.length (l.flatMap enC)) (hn : l.length ≤ 1000000) :
  Calls Tryz.prog 101 #[v_l] w fun e w' => ∃ v' hs', e = .returned v' ∧ Own 42 3 v' l.length (l.flatMap enC) hs' ∧ Has E w' [hs', R] := by
 obtain ⟨p, cap, rfl⟩ := Sl.form h_l
 exact eclone_c_p hH h_l hn
theorem sentries_c {E w : World} {R : List Hp} {sb : Nat} {db : Nat} {ab : Nat} {v : StmS} {g : Int} {n : Int} (hH : Has E w [R]) (h_sb : StmRd db ab R sb v) (hok : StmOk n v) :
  Calls Tryz.prog 17 #[(yp sb), (yi g)] w fun e w' => ∃ (v1' : Value) (s2' : List Hp), e = .returned v1' ∧ (Own 42 3 v1' (v.l.drop (posE v.l g).toNat).length ((v.l.drop (posE v.l g).toNat).flatMap enC) s2') ∧ Has E w' [s2', R] := by
 obtain ⟨hle1_, hle2_⟩ := hok.le
 obtain ⟨hn1_, hn2_⟩ := hok.num
 obtain ⟨hm1_, hm2_⟩ := hok.mrk
 obtain ⟨hs1_, hs2_⟩ := hok.st
 have ht_ := hok.tail
 obtain ⟨hr1_, hr2_⟩ := hok.res
 obtain ⟨hf1_, hf2_⟩ := hok.fl
 obtain ⟨hla1_, hla2_, hla3_⟩ := last_le hok
 have hfv_ : freeV n v = n * 64 - (v.tail - v.st) - v.res := rfl
 obtain ⟨x1, hc3, f2⟩ := h_sb
 have f2_n := f2.le
 refine zs (args := [(yp sb), (yi g)]) Tryz.func17 rfl Tryz.ntmps17 (by simp) (yq fun K4 hK4 => (zd (za (zc (.slice none 0 0) rfl (zf (ze (hK4 _ _ (yq fun K5 hK5 => (yq fun K6 hK6 => (zd (za (zb (yp sb) rfl (za (o_pnil (p := some _) Tryz.underlying34 rfl rfl (zf (ze (hK6 _ _ (zK rfl rfl (wp_skip ?_)))))))))))))))))))
 refine ze (hK5 _ _ (yq fun K7 hK7 => (Rest.region mixed (by kernel_rfl) ?_)))
 have hH8 : Has E { w with drawn := w.drawn + 1 } [R] := Has0.drew hH _
 refine Rest.phaseA (fun w_ => Has E w_ [R]) 0 7 7 rfl (by decide) (by kernel_rfl) (zn 0 rfl (by kernel_rfl) (fun w_ h_ => zb (yp sb) rfl ⟨rfl, rfl⟩) (zn 1 rfl (by kernel_rfl) (fun w_ h_ => zl rfl ⟨rfl, rfl⟩) (zn 2 rfl (by kernel_rfl) (fun w_ h_ => zg (k := 7) (fun _ => by kernel_rfl) rfl ⟨rfl, rfl⟩) (zn 3 rfl (by kernel_rfl) (fun w_ h_ => zj (v := x1) Tryz.underlying37 rfl rfl h_ (zh 0 rfl) (CellsAt.field (k := 7) (ds := [x1]) hc3 rfl) ⟨rfl, rfl⟩) (zn 4 rfl (by kernel_rfl) (fun w_ h_ => zb (yp sb) rfl ⟨rfl, rfl⟩) (zn 5 rfl (by kernel_rfl) (fun w_ h_ => zb (yi g) rfl ⟨rfl, rfl⟩) (a_w 6 rfl (by kernel_rfl) hH8 (zk (vs := #[(yp sb), (yi g)]) ca102 rfl (zF rfl rfl) (splace_c (v := v) (db := db) (ab := ab) (g := g) (n := n) hH8.all ((StmRd.mk hc3 f2).mono (zh 0 rfl)) hok) ?_))))))))
 rintro _ w11 ⟨rfl, hX9⟩
 refine ⟨_, rfl, ?_⟩
 have hH10 := hX9.of_all
 have hpl_ := posE_le v.l g
 refine zM (by kernel_rfl) hH10 (zO 7 rfl (by kernel_rfl) (o_sl_l Tryz.underlying37 ti42 rfl f2 rfl (by omega) (by omega) fun v12 hv13 => ?_))
 have hv14 := sl_dropF enC_len hv13
 refine zO 8 rfl (by kernel_rfl) (zk (vs := #[v12]) ca101 rfl (zI rfl) (eclone_c (l := v.l.drop ((posE v.l g)).toNat) hH10.all (hv14.mono (zh 0 rfl)) (by first | omega | (simp only []; omega) | (simp; done) | (simp; omega))) ?_)
 rintro _ w20 ⟨v15, s16, rfl, ho17, hX18⟩
 refine ⟨_, rfl, ?_⟩
 have hH19 := hX18.of_all1
 refine zO 9 rfl (by kernel_rfl) (zc v15 rfl (Rest.done (by kernel_rfl) (ze (hK7 _ _ (wp_ret (zr Tryz.results17  (v := v15) rfl ?_))))))
 have q21 : (v.l.drop (posE v.l g).toNat) = (v.l.drop ((posE v.l g)).toNat) := by rfl
 exact ⟨_, _, rfl, (by rw [q21]; exact ho17), hH19⟩
theorem shead_c {E w : World} {R : List Hp} {sb : Nat} {db : Nat} {ab : Nat} {v : StmS}  (hH : Has E w [R]) (h_sb : StmRd db ab R sb v) :
  Calls Tryz.prog 19 #[(yp sb)] w fun e w' => e = .returned (.agg (yH v.hd)) ∧ Has E w' [R] := by
 obtain ⟨x1, hc3, f2⟩ := h_sb
 have f2_n := f2.le
 refine zs (args := [(yp sb)]) Tryz.func19 rfl Tryz.ntmps19 (by simp) (yq fun K4 hK4 => (zd (za (zU (cs := y0A) zY rfl hH fun b5 w6 hH7 => (zf (ze (hK4 _ _ (yq fun K8 hK8 => (yq fun K9 hK9 => (zd (za (zb (yp sb) rfl (za (o_pnil (p := some _) Tryz.underlying34 rfl rfl (zf (ze (hK9 _ _ (zK rfl rfl (wp_skip ?_)))))))))))))))))))
 refine ze (hK8 _ _ (yq fun K10 hK10 => (zd (za (zb (yp sb) rfl (za (zl rfl (za (zg (k := 0) (fun _ => by kernel_rfl) rfl (za (zg (k := 0) (fun _ => by kernel_rfl) rfl (za (zG (cs := [(yi v.seq), (yi v.ep), (yi v.hcut), (yi v.st), (yi v.mrk)]) Tryz.underlying23 rfl zY rfl hH7 (zh 1 rfl) (CellsAt.field (k := 0) (ds := [(yi v.seq), (yi v.ep), (yi v.hcut), (yi v.st), (yi v.mrk)]) (CellsAt.field (k := 0) (ds := [(yi v.seq), (yi v.ep), (yi v.hcut), (yi v.st), (yi v.mrk)]) hc3 rfl) rfl) (zB (zv (vs := [(yi v.seq), (yi v.ep), (yi v.hcut), (yi v.st), (yi v.mrk)]) (c' := #[(yi v.seq), (yi v.ep), (yi v.hcut), (yi v.st), (yi v.mrk)]) zY rfl rfl rfl rfl y5 (by simp) (by kernel_rfl) (hH7.front 0 rfl) fun w11 hH12 => (zf (ze (hK10 _ _ (wp_ret (c_retC1 Tryz.results19 rfl (zu (cs := [(yi v.seq), (yi v.ep), (yi v.hcut), (yi v.st), (yi v.mrk)]) Tryz.underlying23 rfl zY hH12 (zh 0 rfl) (CellsAt.one rfl)) ?_))))))))))))))))))))
 have q13 : v.hd = (Hd.mk v.seq v.ep v.hcut v.st v.mrk) := by rfl
 have hH14 := (hH12.front 1 rfl).first 1 rfl
 exact ⟨by rw [q13], hH14⟩
end Go.Q
namespace Go.Q
open Go.Proofs
set_option linter.unusedVariables false
set_option maxRecDepth 100000
attribute [local irreducible] wpList OK Code.wp
theorem sum2_c {E w : World} {R : List Hp} (hH : Has E w [R]) {v : Value} {a b : Int} (hv : Ints R v [a, b]) (ha : 0 ≤ a) (hb : 0 ≤ b) (hab : a + b ≤ 4000000000000000000) :
  Calls Tryz.prog 198 #[v] w fun e w' => e = .returned (yi (a + b)) ∧ Has E w' [R] := by
 have h := sum_c hH hv
 rw [sumS_two ha hb hab] at h
 exact h
theorem size_c {E w : World} {R : List Hp} (hH : Has E w [R]) {v : Value} {l : List (List UInt8)} (hv : Sl R 1 v l.length (l.map sV)) (hn : l.length ≤ 1000000) (hl : l.flatten.length ≤ 1000000000) :
  Calls Tryz.prog 120 #[v] w fun e w' => e = .returned (yi (25 + (l.flatten.length : Int))) ∧ Has E w' [R] := by
 have hn_ := hv.le
 refine zs (args := [v]) Tryz.func120 rfl Tryz.ntmps120 (by simp) (yq fun K1 hK1 => (zd (za (zc (yi 0) rfl (zf (ze (hK1 _ _ (yq fun K2 hK2 => (zd (za (zc (yi 25) rfl (zf (ze (hK2 _ _ (yq fun K3 hK3 => (yq fun K4 hK4 => (zd (za (zb v rfl ?_)))))))))))))))))))
 refine za (zQ Tryz.underlying46 rfl hv (za (zb (yi 0) rfl (zf (ze (hK4 _ _ (wp_block ?_)))))))
 let I6 : Nat → (Nat → Value) → World → Prop := fun n__ r__ w__ => ∃ (k : Nat) (y : Int), n__ = l.length - k ∧ Has E w__ [R] ∧ (k ≤ l.length) ∧ (y = 25 + ((l.take k).flatten.length : Int)) ∧ (25 ≤ y ∧ y ≤ 2000000000) ∧ r__ 0 = v ∧ r__ 2 = (yi 0) ∧ r__ 3 = (yi y) ∧ r__ 6 = v ∧ r__ 7 = (yi ((l.length : Nat) : Int)) ∧ r__ 8 = (yi (k : Int))
 refine zX I6 _ ⟨0, 25, rfl, hH, Nat.zero_le _, rfl, (by omega), rfl, rfl, rfl, rfl, rfl, rfl⟩ ?_
 rintro n_ r9 w7 ⟨k, y, rfl, hH8, hk, hy, hyb, e5_0, e5_2, e5_3, e5_6, e5_7, e5_8⟩
 refine yq fun K10 hK10 => (zd (za (zL (a := (k : Int)) (b := ((l.length : Nat) : Int)) e5_8 e5_7 (zf (ze (hK10 _ _ (yq fun K11 hK11 => (zt rfl (fun h12 => ?_) (fun h12 => ?_)))))))))
 ·
  refine wp_skip (ze (hK11 _ _ (yq fun K13 hK13 => (wp_block (yq fun K14 hK14 => (zd ?_))))))
  obtain ⟨x18, hx19⟩ : ∃ x_, l[((k : Int)).toNat]? = some x_ := zN (by omega)
  refine za (z6 Tryz.underlying46 ti9 e5_6 hv e5_8 (by omega) hx19 fun b15 o16 hc17 => ?_)
  have hxl := flat_le (List.mem_of_getElem? hx19)
  have htk := take_flat_le l k hx19
  refine za (zj (v := (S x18)) Tryz.underlying9 rfl rfl hH8 (zh 0 rfl) hc17 (za (zc (S x18) rfl (zf (ze (hK14 _ _ (zd (za (zb (yi y) e5_3 (za (zb (S x18) rfl (za (z8 Tryz.underlying9 rfl (za (zw (ps := #[(0, (yi y)), (1, (yi (x18.length : Int)))]) (cells := #[(yi y), (yi (x18.length : Int))]) Tryz.underlying47 ti3 (by decide) (parts2 rfl rfl) (by kernel_rfl) hH8 fun b20 w21 hH22 => (za (zk (vs := #[(.slice (some ⟨b20, 0, none⟩) 2 2)]) ca198 rfl (zI rfl) (sum2_c hH22.all (a := y) (b := (x18.length : Int)) ((zW (f := iV) (l := [y, (x18.length : Int)]) rfl rfl (by simp)).mono (zh 0 rfl)) (by omega) (by omega) (by omega)) ?_)))))))))))))))))
  rintro _ w25 ⟨rfl, hX23⟩
  refine ⟨_, rfl, ?_⟩
  have hH24 := hX23.of_all
  refine za (zc (yi (y + (x18.length : Int))) rfl (zf (zC (ze (hK13 _ _ (zd (za (zD (a := (k : Int)) (b := 1) e5_8 rfl (w64 (by omega) (by omega)) (za (zb (yi ((k : Int) + 1)) rfl (zf ?_)))))))))))
  have hH26 := (hH24.front 1 rfl).first 1 rfl
  refine ze ⟨l.length - (k + 1), _, rfl, ?_, ?_⟩
  · omega
  · exact ⟨(k + 1), (y + (x18.length : Int)), rfl, hH26, (by omega), (by rw [zS (show l[k]? = some _ from hx19), List.flatten_append, List.length_append, hy]; simp; omega), (by omega), e5_0, e5_2, rfl, e5_6, e5_7, rfl⟩
 ·
  refine wp_exit (zy (zy (x_in ((ze (hK3 _ _ (yq fun K27 hK27 => (zd (za (zb (yi y) e5_3 (za (zc (yi y) rfl (zf (ze (hK27 _ _ (wp_ret (zr Tryz.results120  (v := (yi y)) rfl ?_)))))))))))))))))
  have e : k = l.length := by omega
  rw [e, List.take_length] at hy
  exact ⟨by rw [hy], hH8⟩
theorem size1_c {E w : World} {R : List Hp} (hH : Has E w [R]) {v : Value} {s : Bs} (hv : Sl R 1 v [s].length ([s].map sV)) (hs : s.length ≤ 1000000) :
  Calls Tryz.prog 120 #[v] w fun e w' => e = .returned (yi (25 + (s.length : Int))) ∧ Has E w' [R] := by
 have h := size_c hH hv (by simp) (by simp only [List.flatten_cons, List.flatten_nil, List.append_nil]; omega)
 rw [show ([s] : List Bs).flatten = s by simp] at h
 exact h
theorem slay_c {E w : World} {R : List Hp} {sb : Nat} {sg_sb : List Hp} {db : Nat} {ab : Nat} {v : StmS} {g : Int} {s : Bs} {n : Int} (hH : Has E w [sg_sb, R]) (h_sb : StmAt db ab sb sg_sb v) (hok : StmOk n v) (hsl : s.length ≤ 1000) :
  Calls Tryz.prog 121 #[(yp sb), (yi g), (S s)] w fun e w' => ∃ (sg_sb' : List Hp), e = .returned (.tuple #[]) ∧ (StmAt db ab sb sg_sb' (layS v g s)) ∧ Has E w' [sg_sb', R] := by
 obtain ⟨hle1_, hle2_⟩ := hok.le
 obtain ⟨hn1_, hn2_⟩ := hok.num
 obtain ⟨hm1_, hm2_⟩ := hok.mrk
 obtain ⟨hs1_, hs2_⟩ := hok.st
 have ht_ := hok.tail
 obtain ⟨hr1_, hr2_⟩ := hok.res
 obtain ⟨hf1_, hf2_⟩ := hok.fl
 obtain ⟨hla1_, hla2_, hla3_⟩ := last_le hok
 have hfv_ : freeV n v = n * 64 - (v.tail - v.st) - v.res := rfl
 obtain ⟨x1, s2, rfl, f3⟩ := h_sb
 have hH4 := Has.op2 hH
 refine zs (args := [(yp sb), (yi g), (S s)]) Tryz.func121 rfl Tryz.ntmps121 (by simp) (yq fun K5 hK5 => (Rest.region mixed (by kernel_rfl) ?_))
 have hH6 : Has E { w with drawn := w.drawn + 1 } [(yS sb v db ab x1), s2, R] := Has0.drew hH4 _
 refine Rest.phaseA (fun w_ => Has E w_ [(yS sb v db ab x1)]) 0 14 14 rfl (by decide) (by kernel_rfl) (zn 0 rfl (by kernel_rfl) (fun w_ h_ => zb (yp sb) rfl ⟨rfl, rfl⟩) (zn 1 rfl (by kernel_rfl) (fun w_ h_ => zb (yp sb) rfl ⟨rfl, rfl⟩) (zn 2 rfl (by kernel_rfl) (fun w_ h_ => zl rfl ⟨rfl, rfl⟩) (zn 3 rfl (by kernel_rfl) (fun w_ h_ => zg (k := 7) (fun _ => by kernel_rfl) rfl ⟨rfl, rfl⟩) (zn 4 rfl (by kernel_rfl) (fun w_ h_ => zj (v := x1) Tryz.underlying37 rfl rfl h_ (zh 0 rfl) (CellsAt.one rfl) ⟨rfl, rfl⟩) (zn 5 rfl (by kernel_rfl) (fun w_ h_ => zb (yi g) rfl ⟨rfl, rfl⟩) (zn 6 rfl (by kernel_rfl) (fun w_ h_ => zb (yp sb) rfl ⟨rfl, rfl⟩) (zn 7 rfl (by kernel_rfl) (fun w_ h_ => zl rfl ⟨rfl, rfl⟩) (zn 8 rfl (by kernel_rfl) (fun w_ h_ => zg (k := 8) (fun _ => by kernel_rfl) rfl ⟨rfl, rfl⟩) (zn 9 rfl (by kernel_rfl) (fun w_ h_ => zj (v := (yi v.tail)) Tryz.underlying3 rfl rfl h_ (zh 0 rfl) (CellsAt.one rfl) ⟨rfl, rfl⟩) (zn 10 rfl (by kernel_rfl) (fun w_ h_ => zb (S s) rfl ⟨rfl, rfl⟩) (zn 11 rfl (by kernel_rfl) (fun w_ h_ => zJ (v := (.agg #[(yi g), (yi v.tail), (S s)])) (fun _ => by kernel_rfl) ⟨rfl, rfl⟩) ?_))))))))))))
 have hH7 := hH6.first 1 rfl
 refine a_w 12 rfl (by kernel_rfl) hH7 (zw (ps := #[(0, (.agg #[(yi g), (yi v.tail), (S s)]))]) (cells := #[(yi g), (yi v.tail), (S s)]) Tryz.underlying37 ti42 (by decide) (yb rfl) (by kernel_rfl) hH6 fun b8 w9 hH10 => ?_)
 have hH11 := (hH10.front 1 rfl).first 1 rfl
 refine a_w 13 rfl (by kernel_rfl) hH11 (o_appendL Tryz.underlying37 ti42 rfl (by decide) rfl f3 rfl (sl_litF (f := enC) (l := [(LEnt.mk g v.tail s)]) enC_len rfl rfl (by simp)) (hH10.front 2 rfl) (zh 0 rfl) (one_enC _) (by simp only [List.length_cons, List.length_nil]; omega) (by simp only [List.length_cons, List.length_nil]; omega) fun v12 s13 w15 ho14 hH16 => ?_)
 have ho14 : OwnL 42 3 v12 (v.l ++ [(LEnt.mk g v.tail s)]).length ((v.l ++ [(LEnt.mk g v.tail s)]).flatMap enC) s13 := ho14.appF
 obtain ⟨p17, c18, rfl⟩ := Sl.form (OwnL.sl ho14)
 have hH19 := (hH16.front 2 rfl).first 1 rfl
 refine zM (by kernel_rfl) hH19 (zO 14 rfl (by kernel_rfl) (zl rfl (zO 15 rfl (by kernel_rfl) (zg (k := 7) (fun _ => by kernel_rfl) rfl (r_eff 16 rfl (by kernel_rfl) (zH (c' := #[(yi v.seq), (yi v.ep), (yi v.hcut), (yi v.st), (yi v.mrk), (yp db), (yp ab), (.slice p17 (v.l ++ [(LEnt.mk g v.tail s)]).length c18), (yi v.tail), (yi v.flushed), (yi v.res), (.bool v.cut), (yi v.err)]) ti37 rfl rfl ho14.one (by simp) rfl (hH16.front 2 rfl) fun w20 hH21 => (Rest.done (by kernel_rfl) (ze (hK5 _ _ (Rest.region mixed (by kernel_rfl) ?_))))))))))
 have hH22 : Has E { w20 with drawn := w20.drawn + 1 } [(yo sb #[(yi v.seq), (yi v.ep), (yi v.hcut), (yi v.st), (yi v.mrk), (yp db), (yp ab), (.slice p17 (v.l ++ [(LEnt.mk g v.tail s)]).length c18), (yi v.tail), (yi v.flushed), (yi v.res), (.bool v.cut), (yi v.err)] 175), s13, (yo b8 #[(yi g), (yi v.tail), (S s)] 42), R] := Has0.drew hH21 _
 refine Rest.phaseA (fun w_ => Has E w_ [(yo sb #[(yi v.seq), (yi v.ep), (yi v.hcut), (yi v.st), (yi v.mrk), (yp db), (yp ab), (.slice p17 (v.l ++ [(LEnt.mk g v.tail s)]).length c18), (yi v.tail), (yi v.flushed), (yi v.res), (.bool v.cut), (yi v.err)] 175)]) 0 7 7 rfl (by decide) (by kernel_rfl) (zn 0 rfl (by kernel_rfl) (fun w_ h_ => zb (yp sb) rfl ⟨rfl, rfl⟩) (zn 1 rfl (by kernel_rfl) (fun w_ h_ => zl rfl ⟨rfl, rfl⟩) (zn 2 rfl (by kernel_rfl) (fun w_ h_ => zg (k := 8) (fun _ => by kernel_rfl) rfl ⟨rfl, rfl⟩) (zn 3 rfl (by kernel_rfl) (fun w_ h_ => zj (v := (yi v.tail)) Tryz.underlying3 rfl rfl h_ (zh 0 rfl) (CellsAt.one rfl) ⟨rfl, rfl⟩) (zn 4 rfl (by kernel_rfl) (fun w_ h_ => zb (S s) rfl ⟨rfl, rfl⟩) ?_)))))
 have hH23 := hH22.first 1 rfl
 refine a_w 5 rfl (by kernel_rfl) hH23 (zw (ps := #[(0, (S s))]) (cells := #[(S s)]) Tryz.underlying46 ti9 (by decide) (yb rfl) (by kernel_rfl) hH22 fun b24 w25 hH26 => ?_)
 have hH27 := (hH26.front 1 rfl).first 1 rfl
 refine a_w 6 rfl (by kernel_rfl) hH27 (zk (vs := #[(.slice (some ⟨b24, 0, none⟩) 1 1)]) ca120 rfl (zI rfl) (size1_c hH26.all (s := s) ((zW (f := sV) (l := [s]) rfl rfl (by simp)).mono (zh 0 rfl)) (by omega)) ?_)
 rintro _ w30 ⟨rfl, hX28⟩
 refine ⟨_, rfl, ?_⟩
 have hH29 := hX28.of_all
 have hH31 := (hH29.front 1 rfl).first 1 rfl
 refine zM (by kernel_rfl) hH31 (zO 7 rfl (by kernel_rfl) (zD (a := v.tail) (b := 25 + (s.length : Int)) rfl rfl (w64 (by omega) (by omega)) (zO 8 rfl (by kernel_rfl) (zl rfl (zO 9 rfl (by kernel_rfl) (zg (k := 8) (fun _ => by kernel_rfl) rfl (r_eff 10 rfl (by kernel_rfl) (zH (c' := #[(yi v.seq), (yi v.ep), (yi v.hcut), (yi v.st), (yi v.mrk), (yp db), (yp ab), (.slice p17 (v.l ++ [(LEnt.mk g v.tail s)]).length c18), (yi (v.tail + (25 + (s.length : Int)))), (yi v.flushed), (yi v.res), (.bool v.cut), (yi v.err)]) ti3 rfl rfl rfl (by simp) rfl (hH29.front 1 rfl) fun w32 hH33 => (Rest.done (by kernel_rfl) (c_end0 Tryz.results121  ?_))))))))))
 have hH34 := Has.cl2 ((hH33.front 2 rfl).front 1 rfl)
 have hd35 : StmAt db ab sb ((yo sb #[(yi v.seq), (yi v.ep), (yi v.hcut), (yi v.st), (yi v.mrk), (yp db), (yp ab), (.slice p17 (v.l ++ [(LEnt.mk g v.tail s)]).length c18), (yi (v.tail + (25 + (s.length : Int)))), (yi v.flushed), (yi v.res), (.bool v.cut), (yi v.err)] 175) ++ s13) (⟨v.seq, v.ep, v.hcut, v.st, v.mrk, v.l ++ [(LEnt.mk g v.tail s)], v.tail + (25 + (s.length : Int)), v.flushed, v.res, v.cut, v.err⟩ : StmS) := StmAt.mk (v := (⟨v.seq, v.ep, v.hcut, v.st, v.mrk, v.l ++ [(LEnt.mk g v.tail s)], v.tail + (25 + (s.length : Int)), v.flushed, v.res, v.cut, v.err⟩ : StmS)) ho14
 have q36 : (layS v g s) = (⟨v.seq, v.ep, v.hcut, v.st, v.mrk, v.l ++ [(LEnt.mk g v.tail s)], v.tail + (25 + (s.length : Int)), v.flushed, v.res, v.cut, v.err⟩ : StmS) := by rfl
 have hH37 := ((hH34.front 3 rfl).front 1 rfl).first 2 rfl
 exact ⟨_, rfl, (by rw [q36]; exact hd35), hH37⟩
end Go.Q
namespace Go.Q
open Go.Proofs
set_option linter.unusedVariables false
set_option maxRecDepth 100000
attribute [local irreducible] wpList OK Code.wp
theorem sappend_c {E w : World} {R : List Hp} {sb : Nat} {sg_sb : List Hp} {db : Nat} {ab : Nat} {v : StmS} {g : Int} {v_ds : Value} {ds : List (List UInt8)} {n : Int} (hH : Has E w [sg_sb, R]) (h_sb : StmAt db ab sb sg_sb v) (h_ds : Sl R 1 v_ds ds.length (ds.map sV)) (h_ab : CellsAt R ab 0 [.pointer (some ⟨db, 0, none⟩), .int .i64 2, .int .i64 n]) (hok : StmOk n v) (hdn : ds.length ≤ 1000000) (hdl : ds.flatten.length ≤ 140737488355328) :
  Calls Tryz.prog 30 #[(yp sb), (yi g), v_ds] w fun e w' => ∃ (sg_sb' : List Hp), e = .returned (yi (apE n v g ds.flatten)) ∧ (StmAt db ab sb sg_sb' (apS n v g ds.flatten)) ∧ Has E w' [sg_sb', R] := by
 obtain ⟨hle1_, hle2_⟩ := hok.le
 obtain ⟨hn1_, hn2_⟩ := hok.num
 obtain ⟨hm1_, hm2_⟩ := hok.mrk
 obtain ⟨hs1_, hs2_⟩ := hok.st
 have ht_ := hok.tail
 obtain ⟨hr1_, hr2_⟩ := hok.res
 obtain ⟨hf1_, hf2_⟩ := hok.fl
 obtain ⟨hla1_, hla2_, hla3_⟩ := last_le hok
 have hfv_ : freeV n v = n * 64 - (v.tail - v.st) - v.res := rfl
 obtain ⟨x1, s2, rfl, f3⟩ := h_sb
 have hH4 := Has.op2 hH
 refine zs (args := [(yp sb), (yi g), v_ds]) Tryz.func30 rfl Tryz.ntmps30 (by simp) (yq fun K5 hK5 => (zd (za (zc (yi 0) rfl (zf (ze (hK5 _ _ (yq fun K6 hK6 => (zd (za (zb v_ds rfl (za (zk (vs := #[v_ds, (S ([] : List UInt8))]) ca118 rfl (zF rfl rfl) (join_c hH4.all (l := ds) (h_ds.mono (zh 2 rfl)) (by omega) (by omega)) ?_)))))))))))))
 rintro _ w9 ⟨rfl, hX7⟩
 refine ⟨_, rfl, ?_⟩
 have hH8 := hX7.of_all
 refine za (zc (S ds.flatten) rfl (zf (ze (hK6 _ _ (yq fun K10 hK10 => (yq fun K11 hK11 => (zd (za (zb (yp sb) rfl (za (zb (yi g) rfl (za (zb (S ds.flatten) rfl (za (z8 Tryz.underlying9 rfl (za (zk (vs := #[(yp sb), (yi g), (yi (ds.flatten.length : Int))]) ca119 rfl (args3 rfl rfl rfl) (smay_c (v := v) (db := db) (ab := ab) (g := g) (size := (ds.flatten.length : Int)) (n := n) hH8.all (StmRd.mk (v := v) ((CellsAt.one rfl).mono (zh 0 rfl)) (f3.sl.mono (zh 1 rfl))) hok) ?_)))))))))))))))))
 rintro _ w14 ⟨rfl, hX12⟩
 refine ⟨_, rfl, ?_⟩
 have hH13 := hX12.of_all
 refine za (zc (yi (mayL v g (ds.flatten.length : Int))) rfl (zf (ze (hK11 _ _ (yq fun K15 hK15 => (zd (za (zb (yi (mayL v g (ds.flatten.length : Int))) rfl (za (o_neq (a := (mayL v g (ds.flatten.length : Int))) (b := 0) rfl rfl (zf (ze (hK15 _ _ (zt rfl (fun h16 => ?_) (fun h16 => ?_)))))))))))))))
 ·
  refine yq fun K17 hK17 => (zd (za (zb (yi (mayL v g (ds.flatten.length : Int))) rfl (za (zc (yi (mayL v g (ds.flatten.length : Int))) rfl (zf (ze (hK17 _ _ (wp_ret (zx (zr Tryz.results30  (v := (yi (mayL v g (ds.flatten.length : Int)))) rfl ?_)))))))))))
  have q18 : (apE n v g ds.flatten) = (mayL v g (ds.flatten.length : Int)) := by unfold apE; rw [if_pos h16]
  have hH19 := Has.cl2 ((hH13.front 1 rfl).front 1 rfl)
  have hd20 : StmAt db ab sb ((yS sb v db ab x1) ++ s2) v := StmAt.mk (v := v) f3
  have q21 : (apS n v g ds.flatten) = v := by unfold apS; rw [if_neg (by unfold apE; rw [if_pos h16]; first | decide | exact h16)]
  exact ⟨_, by rw [q18], (by rw [q21]; exact hd20), hH19⟩
 ·
  have hmy_ := mayL_zero (Classical.not_not.1 h16)
  refine wp_skip (ze (hK10 _ _ (yq fun K22 hK22 => (yq fun K23 hK23 => (zd (za (zb (S ds.flatten) rfl (za (zw (ps := #[(0, (S ds.flatten))]) (cells := #[(S ds.flatten)]) Tryz.underlying46 ti9 (by decide) (yb rfl) (by kernel_rfl) hH13 fun b24 w25 hH26 => (za (zk (vs := #[(.slice (some ⟨b24, 0, none⟩) 1 1)]) ca120 rfl (zI rfl) (size1_c hH26.all (s := ds.flatten) ((zW (f := sV) (l := [ds.flatten]) rfl rfl (by simp)).mono (zh 0 rfl)) (by omega)) ?_)))))))))))
  rintro _ w29 ⟨rfl, hX27⟩
  refine ⟨_, rfl, ?_⟩
  have hH28 := hX27.of_all
  refine za (zb (yp sb) rfl (za (zk (vs := #[(yp sb)]) ca38 rfl (zI rfl) (sfree_c (v := v) (db := db) (ab := ab) (n := n) hH28.all (StmRd.mk (v := v) ((CellsAt.one rfl).mono (zh 1 rfl)) (f3.sl.mono (zh 2 rfl))) (h_ab.mono (zh 3 rfl)) hok) ?_)))
  rintro _ w32 ⟨rfl, hX30⟩
  refine ⟨_, rfl, ?_⟩
  have hH31 := hX30.of_all
  refine za (o_gtr (a := 25 + (ds.flatten.length : Int)) (b := (freeV n v)) rfl rfl (zf (ze (hK23 _ _ (zt rfl (fun h33 => ?_) (fun h33 => ?_))))))
  ·
   refine yq fun K34 hK34 => (zd (za (zc (yi 5) rfl (zf (ze (hK34 _ _ (wp_ret (zx (zr Tryz.results30  (v := (yi 5)) rfl ?_)))))))))
   have q35 : (apE n v g ds.flatten) = 5 := by unfold apE; rw [if_neg h16, if_pos h33]
   have hH36 := Has.cl2 ((hH31.front 2 rfl).front 2 rfl)
   have hd37 : StmAt db ab sb ((yS sb v db ab x1) ++ s2) v := StmAt.mk (v := v) f3
   have q38 : (apS n v g ds.flatten) = v := by unfold apS; rw [if_neg (by unfold apE; rw [if_neg h16, if_pos h33]; first | decide | exact h33)]
   have hH39 := ((hH36.front 2 rfl).front 1 rfl).first 2 rfl
   exact ⟨_, by rw [q35], (by rw [q38]; exact hd37), hH39⟩
  ·
   refine wp_skip (ze (hK22 _ _ (yq fun K40 hK40 => (zd (za (zb (yp sb) rfl (za (zb (yi g) rfl (za (zb (S ds.flatten) rfl ?_))))))))))
   have hH41 := Has.cl2 ((hH31.front 2 rfl).front 2 rfl)
   have hd42 : StmAt db ab sb ((yS sb v db ab x1) ++ s2) v := StmAt.mk (v := v) f3
   refine za (zk (vs := #[(yp sb), (yi g), (S ds.flatten)]) ca121 rfl (args3 rfl rfl rfl) (slay_c (db := db) (ab := ab) (v := v) (g := g) (s := ds.flatten) (n := n) hH41.all1 hd42 hok (by first | omega | (simp only []; omega) | (simp; done) | (simp; omega))) ?_)
   rintro _ w47 ⟨sg43, rfl, hd44, hX45⟩
   refine ⟨_, rfl, ?_⟩
   have hH46 := hX45.of_all1
   refine zf (ze (hK40 _ _ (yq fun K48 hK48 => (zd (za (zc (yi 0) rfl (zf (ze (hK48 _ _ (wp_ret (zr Tryz.results30  (v := (yi 0)) rfl ?_)))))))))))
   have q49 : (apE n v g ds.flatten) = 0 := by unfold apE; rw [if_neg h16, if_neg h33]
   have q50 : (apS n v g ds.flatten) = (layS v g ds.flatten) := by unfold apS; rw [if_pos (by unfold apE; rw [if_neg h16, if_neg h33])]
   have hH51 := ((hH46.front 2 rfl).front 1 rfl).first 2 rfl
   exact ⟨_, by rw [q49], (by rw [q50]; exact hd44), hH51⟩
end Go.Q
