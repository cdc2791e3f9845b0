/-
  Parts of a walk: what functions of the program compute, each told by a theorem.
-/
import Derived.Test.YtcffibbdbalmjaaQE5
set_option linter.unusedVariables false
set_option linter.unusedSimpArgs false
namespace Go.Q
open Go.Proofs
set_option linter.unusedVariables false
set_option maxRecDepth 100000
attribute [local irreducible] wpList OK Code.wp
def DevAt (pb : Nat) (sg : List Hp) (db : Nat) (la : List Bs) (lo : List (Int × Bs)) : Prop := ∃ v hL mb es c, sg = hL ++ ([Hp.one mb (.map es c)] ++ [Hp.one db (.cells #[(.pointer (some ⟨pb, 0, none⟩)), v, (.map (some mb))] 137 (0, 0))]) ∧ Own 9 1 v la.length (la.map sV) hL ∧ MapV iV sV es c lo
theorem Has.close3' {E w : World} {x a b c : List Hp} {ss : List (List Hp)} (H : Has E w (x :: a :: b :: c :: ss)) : Has E w (x :: (a ++ (b ++ c)) :: ss) := by
  unfold Has at *; simpa [List.append_assoc] using H
theorem sectors_d {E w : World} {R sg : List Hp} {pb db : Nat} {p : Pw} {la : List Bs} {lo : List (Int × Bs)} (hH : Has E w [sg, [Hp.one pb (.cells #[(.bool p.off), (.bool p.armed), (.int .i64 p.left), (.int .i64 p.uses)] 101 (0, 0))], R]) (hd : DevAt pb sg db la lo) :
    Calls Try.prog 61 #[(.pointer (some ⟨db, 0, none⟩))] w fun e w' => e = .returned (.int .i64 ((la.length : Nat) : Int)) ∧ Has E w' [sg, [Hp.one pb (.cells #[(.bool p.off), (.bool p.armed), (.int .i64 p.left), (.int .i64 p.uses)] 101 (0, 0))], R] := by
  obtain ⟨v, hL, mb, es, c, rfl, ho, hm⟩ := hd
  exact (sectors_i hH.open3 ho hm ).mono fun e w' ⟨he, hH'⟩ => ⟨he, hH'.close3⟩
theorem don_d {E w : World} {R sg : List Hp} {pb db : Nat} {p : Pw} {la : List Bs} {lo : List (Int × Bs)} (hH : Has E w [sg, [Hp.one pb (.cells #[(.bool p.off), (.bool p.armed), (.int .i64 p.left), (.int .i64 p.uses)] 101 (0, 0))], R]) (hd : DevAt pb sg db la lo) :
    Calls Try.prog 62 #[(.pointer (some ⟨db, 0, none⟩))] w fun e w' => e = .returned (.bool (!p.off)) ∧ Has E w' [sg, [Hp.one pb (.cells #[(.bool p.off), (.bool p.armed), (.int .i64 p.left), (.int .i64 p.uses)] 101 (0, 0))], R] := by
  obtain ⟨v, hL, mb, es, c, rfl, ho, hm⟩ := hd
  exact (don_i hH.open3 ho hm ).mono fun e w' ⟨he, hH'⟩ => ⟨he, hH'.close3⟩
theorem duses_d {E w : World} {R sg : List Hp} {pb db : Nat} {p : Pw} {la : List Bs} {lo : List (Int × Bs)} (hH : Has E w [sg, [Hp.one pb (.cells #[(.bool p.off), (.bool p.armed), (.int .i64 p.left), (.int .i64 p.uses)] 101 (0, 0))], R]) (hd : DevAt pb sg db la lo) :
    Calls Try.prog 63 #[(.pointer (some ⟨db, 0, none⟩))] w fun e w' => e = .returned (.int .i64 p.uses) ∧ Has E w' [sg, [Hp.one pb (.cells #[(.bool p.off), (.bool p.armed), (.int .i64 p.left), (.int .i64 p.uses)] 101 (0, 0))], R] := by
  obtain ⟨v, hL, mb, es, c, rfl, ho, hm⟩ := hd
  exact (duses_i hH.open3 ho hm ).mono fun e w' ⟨he, hH'⟩ => ⟨he, hH'.close3⟩
theorem darm_d {E w : World} {R sg : List Hp} {pb db : Nat} {p : Pw} {la : List Bs} {lo : List (Int × Bs)} (hH : Has E w [sg, [Hp.one pb (.cells #[(.bool p.off), (.bool p.armed), (.int .i64 p.left), (.int .i64 p.uses)] 101 (0, 0))], R]) (hd : DevAt pb sg db la lo) (n : Int) :
    Calls Try.prog 60 #[(.pointer (some ⟨db, 0, none⟩)), (.int .i64 n)] w fun e w' => e = .returned (.tuple #[]) ∧ Has E w' [sg, [Hp.one pb (.cells #[(.bool (armS p n).off), (.bool (armS p n).armed), (.int .i64 (armS p n).left), (.int .i64 (armS p n).uses)] 101 (0, 0))], R] := by
  obtain ⟨v, hL, mb, es, c, rfl, ho, hm⟩ := hd
  exact (darm_i hH.open3 ho hm n).mono fun e w' ⟨he, hH'⟩ => ⟨he, hH'.close3⟩
theorem loose_d {E w : World} {R sg : List Hp} {pb db : Nat} {p : Pw} {la : List Bs} {lo : List (Int × Bs)} (hH : Has E w [sg, [Hp.one pb (.cells #[(.bool p.off), (.bool p.armed), (.int .i64 p.left), (.int .i64 p.uses)] 101 (0, 0))], R]) (hd : DevAt pb sg db la lo) (hlo : LoOk lo la.length) (hla : la.length ≤ 4096) :
    Calls Try.prog 35 #[(.pointer (some ⟨db, 0, none⟩))] w fun e w' => ∃ v' hs', e = .returned v' ∧ Own 3 1 v' (keysS lo).length ((keysS lo).map iV) hs' ∧ Has E w' [hs', sg, [Hp.one pb (.cells #[(.bool p.off), (.bool p.armed), (.int .i64 p.left), (.int .i64 p.uses)] 101 (0, 0))], R] := by
  obtain ⟨v, hL, mb, es, c, rfl, ho, hm⟩ := hd
  exact (loose_i hH.open3 ho hm hlo hla).mono fun e w' ⟨v', hs', he, ho', hH'⟩ => ⟨v', hs', he, ho', hH'.close3'⟩
theorem write_d {E w : World} {R sg : List Hp} {pb db : Nat} {p : Pw} {la : List Bs} {lo : List (Int × Bs)} (hH : Has E w [sg, [Hp.one pb (.cells #[(.bool p.off), (.bool p.armed), (.int .i64 p.left), (.int .i64 p.uses)] 101 (0, 0))], R]) (hd : DevAt pb sg db la lo) (hp : PwOk p) (hla : la.length ≤ 4096) (n : Int) {vd : Value} {l : List Bs} (hdd : Sl R 1 vd l.length (l.map sV)) (hn : l.length ≤ 1000000) (hl : l.flatten.length ≤ 1000000000) :
    Calls Try.prog 29 #[(.pointer (some ⟨db, 0, none⟩)), (.int .i64 n), vd] w fun e w' => ∃ sg', e = .returned (.int .i64 (writeE p la.length n l.flatten)) ∧ DevAt pb sg' db la (writeS p la.length lo n l.flatten) ∧ Has E w' [sg', [Hp.one pb (.cells #[(.bool (useS p).off), (.bool (useS p).armed), (.int .i64 (useS p).left), (.int .i64 (useS p).uses)] 101 (0, 0))], R] := by
  obtain ⟨v, hL, mb, es, c, rfl, ho, hm⟩ := hd
  exact (write_i hH.open3 ho hm hp hla n hdd hn hl).mono fun e w' ⟨es', c', he, hm', hH'⟩ => ⟨_, he, ⟨v, hL, mb, es', c', rfl, ho, hm'⟩, hH'.close3⟩
theorem sync_d {E w : World} {R sg : List Hp} {pb db : Nat} {p : Pw} {la : List Bs} {lo : List (Int × Bs)} (hH : Has E w [sg, [Hp.one pb (.cells #[(.bool p.off), (.bool p.armed), (.int .i64 p.left), (.int .i64 p.uses)] 101 (0, 0))], R]) (hd : DevAt pb sg db la lo) (hp : PwOk p) (hla : la.length ≤ 4096) (hlo : LoOk lo la.length) :
    Calls Try.prog 31 #[(.pointer (some ⟨db, 0, none⟩))] w fun e w' => ∃ sg', e = .returned (.int .i64 (syncE p)) ∧ DevAt pb sg' db (syncA p la lo) (syncO p lo) ∧ Has E w' [sg', [Hp.one pb (.cells #[(.bool (useS p).off), (.bool (useS p).armed), (.int .i64 (useS p).left), (.int .i64 (useS p).uses)] 101 (0, 0))], R] := by
  obtain ⟨v, hL, mb, es, c, rfl, ho, hm⟩ := hd
  exact (sync_i hH.open3 ho hm hp hla hlo).mono fun e w' ⟨hL', es', c', he, ho', hm', hH'⟩ => ⟨_, he, ⟨v, hL', mb, es', c', rfl, ho', hm'⟩, hH'.close3⟩
theorem crash_d {E w : World} {R sg : List Hp} {pb db : Nat} {p : Pw} {la : List Bs} {lo : List (Int × Bs)} (hH : Has E w [sg, [Hp.one pb (.cells #[(.bool p.off), (.bool p.armed), (.int .i64 p.left), (.int .i64 p.uses)] 101 (0, 0))], R]) (hd : DevAt pb sg db la lo) (hlo : LoOk lo la.length) {vk : Value} {keep : List Int} (hk_ : Ints R vk keep) :
    Calls Try.prog 32 #[(.pointer (some ⟨db, 0, none⟩)), vk] w fun e w' => ∃ sg', e = .returned (.tuple #[]) ∧ DevAt pb sg' db (settleS lo la keep) [] ∧ Has E w' [sg', [Hp.one pb (.cells #[(.bool (backS p).off), (.bool (backS p).armed), (.int .i64 (backS p).left), (.int .i64 (backS p).uses)] 101 (0, 0))], R] := by
  obtain ⟨v, hL, mb, es, c, rfl, ho, hm⟩ := hd
  exact (crash_i hH.open3 ho hm hlo hk_).mono fun e w' ⟨hL', es', c', he, ho', hm', hH'⟩ => ⟨_, he, ⟨v, hL', mb, es', c', rfl, ho', hm'⟩, hH'.close3⟩
theorem read_d {E w : World} {R sg : List Hp} {pb db : Nat} {p : Pw} {la : List Bs} {lo : List (Int × Bs)} (hH : Has E w [sg, [Hp.one pb (.cells #[(.bool p.off), (.bool p.armed), (.int .i64 p.left), (.int .i64 p.uses)] 101 (0, 0))], R]) (hd : DevAt pb sg db la lo) (n : Int) :
    Calls Try.prog 33 #[(.pointer (some ⟨db, 0, none⟩)), (.int .i64 n)] w fun e w' => e = .returned (.tuple #[S (readS p la lo n), .int .i64 (readE p la n)]) ∧ Has E w' [sg, [Hp.one pb (.cells #[(.bool p.off), (.bool p.armed), (.int .i64 p.left), (.int .i64 p.uses)] 101 (0, 0))], R] := by
  obtain ⟨v, hL, mb, es, c, rfl, ho, hm⟩ := hd
  exact (read_i hH.open3 ho hm n).mono fun e w' ⟨he, hH'⟩ => ⟨he, hH'.close3⟩
theorem lasts_d {E w : World} {R sg : List Hp} {pb db : Nat} {p : Pw} {la : List Bs} {lo : List (Int × Bs)} (hH : Has E w [sg, [Hp.one pb (.cells #[(.bool p.off), (.bool p.armed), (.int .i64 p.left), (.int .i64 p.uses)] 101 (0, 0))], R]) (hd : DevAt pb sg db la lo) (n : Int) :
    Calls Try.prog 51 #[(.pointer (some ⟨db, 0, none⟩)), (.int .i64 n)] w fun e w' => e = .returned (S (lastsS la n)) ∧ Has E w' [sg, [Hp.one pb (.cells #[(.bool p.off), (.bool p.armed), (.int .i64 p.left), (.int .i64 p.uses)] 101 (0, 0))], R] := by
  obtain ⟨v, hL, mb, es, c, rfl, ho, hm⟩ := hd
  exact (lasts_i hH.open3 ho hm n).mono fun e w' ⟨he, hH'⟩ => ⟨he, hH'.close3⟩
theorem put_d {E w : World} {R sg : List Hp} {pb db : Nat} {p : Pw} {la : List Bs} {lo : List (Int × Bs)} (hH : Has E w [sg, [Hp.one pb (.cells #[(.bool p.off), (.bool p.armed), (.int .i64 p.left), (.int .i64 p.uses)] 101 (0, 0))], R]) (hd : DevAt pb sg db la lo) (n : Int) (s : Bs) (hs : s.length ≤ 1000000000) :
    Calls Try.prog 52 #[(.pointer (some ⟨db, 0, none⟩)), (.int .i64 n), (S s)] w fun e w' => ∃ sg', e = .returned (.int .i64 (putE la.length n s)) ∧ DevAt pb sg' db (putA la n s) (putO la.length lo n s) ∧ Has E w' [sg', [Hp.one pb (.cells #[(.bool p.off), (.bool p.armed), (.int .i64 p.left), (.int .i64 p.uses)] 101 (0, 0))], R] := by
  obtain ⟨v, hL, mb, es, c, rfl, ho, hm⟩ := hd
  exact (put_i hH.open3 ho hm n s hs).mono fun e w' ⟨hL', es', c', he, ho', hm', hH'⟩ => ⟨_, he, ⟨v, hL', mb, es', c', rfl, ho', hm'⟩, hH'.close3⟩
set_option maxHeartbeats 4000000 in
theorem new_nil {E w : World} {R : List Hp} (hH : Has E w [R]) {n : Nat} (hn : 1 ≤ n ∧ n ≤ 4096) :
    Calls Try.prog 23 #[(.pointer none), (.int .i64 (n : Int))] w fun e w' => ∃ db pb sg, e = .returned (.pointer (some ⟨db, 0, none⟩)) ∧ DevAt pb sg db (List.replicate n blankS) [] ∧ Has E w' [sg, [Hp.one pb (.cells #[(.bool false), (.bool false), (.int .i64 0), (.int .i64 0)] 101 (0, 0))], R] := by
  refine c_enter (args := [(.pointer none), (.int .i64 (n : Int))]) Try.func23 rfl Try.ntmps23 (by simp) ?_
  refine wp_seq_k fun K1 hK1 => ?_
  refine c_region ?_
  refine s_op (o_assign (v := (.pointer none)) rfl ?_)
  refine s_nil ?_
  refine t_norm (hK1 _ _ ?_)
  refine wp_seq_k fun K2 hK2 => ?_
  refine wp_seq_k fun K3 hK3 => ?_
  refine c_region ?_
  refine s_op (o_move (v := (.int .i64 (n : Int))) rfl ?_)
  refine s_op (o_lss (a := (n : Int)) (b := 1) rfl rfl ?_)
  refine s_op (o_move (v := (.bool (decide ((n : Int) < 1)))) rfl ?_)
  by_cases h4 : (n : Int) < 1
  · -- (n : Int) < 1
    exfalso; omega
  · -- not: (n : Int) < 1
    refine s_on 7 rfl (congrArg Value.bool (decide_eq_false h4)) (o_move (v := (.int .i64 (n : Int))) rfl ?_)
    refine s_on 7 rfl (congrArg Value.bool (decide_eq_false h4)) (o_gtr (a := (n : Int)) (b := 4096) rfl rfl ?_)
    refine s_op (o_pick_f (u := (.bool (decide (4096 < (n : Int))))) ((rfl : _ = _).trans (congrArg Value.bool (decide_eq_false h4))) rfl ?_)
    refine s_nil ?_
    refine t_norm (hK3 _ _ ?_)
    refine c_cond rfl (fun h5 => ?_) (fun h5 => ?_)
    · -- 4096 < (n : Int)
      exfalso; omega
    · -- not: 4096 < (n : Int)
      refine wp_skip ?_
      refine t_norm (hK2 _ _ ?_)
      refine wp_seq_k fun K6 hK6 => ?_
      refine wp_seq_k fun K7 hK7 => ?_
      refine c_region ?_
      refine s_op (o_move (v := (.pointer none)) rfl ?_)
      refine s_op (o_pnil (p := none) Try.underlying99 rfl rfl ?_)
      refine s_nil ?_
      refine t_norm (hK7 _ _ ?_)
      refine c_true rfl rfl ?_
      refine c_region ?_
      refine s_op (o_sight (v := (.agg #[(.bool false), (.bool false), (.int .i64 0), (.int .i64 0)])) (fun _ => by kernel_rfl) ?_)
      refine s_op (o_box (cs := #[(.bool false), (.bool false), (.int .i64 0), (.int .i64 0)]) rfl rfl hH fun b8 w9 hH10 => ?_)
      refine s_op (o_assign (v := (.pointer (some ⟨b8, 0, none⟩))) rfl ?_)
      refine s_nil ?_
      refine t_norm (hK6 _ _ ?_)
      refine wp_seq_k fun K11 hK11 => ?_
      refine c_region ?_
      refine s_op (o_move (v := (.pointer (some ⟨b8, 0, none⟩))) rfl ?_)
      refine s_op (o_callf (vs := #[]) ca76 rfl (args0) (blank_c hH10.all) ?_)
      rintro _ w14 ⟨rfl, hX12⟩
      refine ⟨_, rfl, ?_⟩
      have hH13 := hX12.of_all
      refine s_op (o_buildSlice (ps := #[(0, (S blankS))]) (cells := #[(S blankS)]) Try.underlying53 ti9 (by decide) (parts1 rfl) (by kernel_rfl) hH13 fun b15 w16 hH17 => ?_)
      refine s_op (o_move (v := (.int .i64 (n : Int))) rfl ?_)
      refine s_op (o_callf (vs := #[(.slice (some ⟨b15, 0, none⟩) 1 1), (.int .i64 (n : Int))]) ca75 rfl (args2 rfl rfl) (srepeat_c hH17.all (s := blankS) ((sl_lit (f := sV) (l := [blankS]) rfl rfl (by simp)).mono (seg_sub 0 rfl)) (n := n) (by omega)) ?_)
      rintro _ w23 ⟨v18, s19, rfl, ho20, hX21⟩
      refine ⟨_, rfl, ?_⟩
      have hH22 : Has E w23 [s19, [Hp.one b15 (.cells #[(S blankS)] 9 (0, 0))], [Hp.one b8 (.cells #[(.bool false), (.bool false), (.int .i64 0), (.int .i64 0)] 101 (0, 0))], R] := hX21.of_all1
      obtain ⟨p_, c_, rfl⟩ := (Own.sl ho20).form
      refine s_op (o_makeMap hH22 fun m24 w25 hH26 => ?_)
      refine s_op (o_sight (v := (.agg #[(.pointer (some ⟨b8, 0, none⟩)), (.slice p_ (List.replicate n blankS).length c_), (.map (some m24))])) (fun _ => by kernel_rfl) ?_)
      refine s_op (o_box (cs := #[(.pointer (some ⟨b8, 0, none⟩)), (.slice p_ (List.replicate n blankS).length c_), (.map (some m24))]) rfl rfl hH26 fun b27 w28 hH29 => ?_)
      refine s_op (o_assign (v := (.pointer (some ⟨b27, 0, none⟩))) rfl ?_)
      refine s_nil ?_
      refine t_norm (hK11 _ _ ?_)
      refine wp_ret ?_
      refine c_ret1 Try.results23  (v := (.pointer (some ⟨b27, 0, none⟩))) rfl ?_
      have hH30 : Has E w28 [s19, [Hp.one m24 (.map #[] 0)], [Hp.one b27 (.cells #[(.pointer (some ⟨b8, 0, none⟩)), (.slice p_ (List.replicate n blankS).length c_), (.map (some m24))] 137 (0, 0))], [Hp.one b8 (.cells #[(.bool false), (.bool false), (.int .i64 0), (.int .i64 0)] 101 (0, 0))], R] := (((((hH29.front 5 rfl).front 5 rfl).front 2 rfl).front 3 rfl).front 4 rfl).first 5 rfl
      exact ⟨_, _, _, rfl, ⟨_, _, _, _, _, rfl, ho20, MapV.nil⟩, hH30.close3⟩
set_option maxHeartbeats 4000000 in
theorem new_w {E w : World} {R : List Hp} (hH : Has E w [R]) {pb : Nat} {n : Nat} (hn : 1 ≤ n ∧ n ≤ 4096) :
    Calls Try.prog 23 #[(.pointer (some ⟨pb, 0, none⟩)), (.int .i64 (n : Int))] w fun e w' => ∃ db sg, e = .returned (.pointer (some ⟨db, 0, none⟩)) ∧ DevAt pb sg db (List.replicate n blankS) [] ∧ Has E w' [sg, R] := by
  refine c_enter (args := [(.pointer (some ⟨pb, 0, none⟩)), (.int .i64 (n : Int))]) Try.func23 rfl Try.ntmps23 (by simp) ?_
  refine wp_seq_k fun K1 hK1 => ?_
  refine c_region ?_
  refine s_op (o_assign (v := (.pointer none)) rfl ?_)
  refine s_nil ?_
  refine t_norm (hK1 _ _ ?_)
  refine wp_seq_k fun K2 hK2 => ?_
  refine wp_seq_k fun K3 hK3 => ?_
  refine c_region ?_
  refine s_op (o_move (v := (.int .i64 (n : Int))) rfl ?_)
  refine s_op (o_lss (a := (n : Int)) (b := 1) rfl rfl ?_)
  refine s_op (o_move (v := (.bool (decide ((n : Int) < 1)))) rfl ?_)
  by_cases h4 : (n : Int) < 1
  · -- (n : Int) < 1
    exfalso; omega
  · -- not: (n : Int) < 1
    refine s_on 7 rfl (congrArg Value.bool (decide_eq_false h4)) (o_move (v := (.int .i64 (n : Int))) rfl ?_)
    refine s_on 7 rfl (congrArg Value.bool (decide_eq_false h4)) (o_gtr (a := (n : Int)) (b := 4096) rfl rfl ?_)
    refine s_op (o_pick_f (u := (.bool (decide (4096 < (n : Int))))) ((rfl : _ = _).trans (congrArg Value.bool (decide_eq_false h4))) rfl ?_)
    refine s_nil ?_
    refine t_norm (hK3 _ _ ?_)
    refine c_cond rfl (fun h5 => ?_) (fun h5 => ?_)
    · -- 4096 < (n : Int)
      exfalso; omega
    · -- not: 4096 < (n : Int)
      refine wp_skip ?_
      refine t_norm (hK2 _ _ ?_)
      refine wp_seq_k fun K6 hK6 => ?_
      refine wp_seq_k fun K7 hK7 => ?_
      refine c_region ?_
      refine s_op (o_move (v := (.pointer (some ⟨pb, 0, none⟩))) rfl ?_)
      refine s_op (o_pnil (p := some _) Try.underlying99 rfl rfl ?_)
      refine s_nil ?_
      refine t_norm (hK7 _ _ ?_)
      refine c_false rfl rfl ?_
      refine wp_skip ?_
      refine t_norm (hK6 _ _ ?_)
      refine wp_seq_k fun K8 hK8 => ?_
      refine c_region ?_
      refine s_op (o_move (v := (.pointer (some ⟨pb, 0, none⟩))) rfl ?_)
      refine s_op (o_callf (vs := #[]) ca76 rfl (args0) (blank_c hH.all) ?_)
      rintro _ w11 ⟨rfl, hX9⟩
      refine ⟨_, rfl, ?_⟩
      have hH10 := hX9.of_all
      refine s_op (o_buildSlice (ps := #[(0, (S blankS))]) (cells := #[(S blankS)]) Try.underlying53 ti9 (by decide) (parts1 rfl) (by kernel_rfl) hH10 fun b12 w13 hH14 => ?_)
      refine s_op (o_move (v := (.int .i64 (n : Int))) rfl ?_)
      refine s_op (o_callf (vs := #[(.slice (some ⟨b12, 0, none⟩) 1 1), (.int .i64 (n : Int))]) ca75 rfl (args2 rfl rfl) (srepeat_c hH14.all (s := blankS) ((sl_lit (f := sV) (l := [blankS]) rfl rfl (by simp)).mono (seg_sub 0 rfl)) (n := n) (by omega)) ?_)
      rintro _ w20 ⟨v15, s16, rfl, ho17, hX18⟩
      refine ⟨_, rfl, ?_⟩
      have hH19 : Has E w20 [s16, [Hp.one b12 (.cells #[(S blankS)] 9 (0, 0))], R] := hX18.of_all1
      obtain ⟨p_, c_, rfl⟩ := (Own.sl ho17).form
      refine s_op (o_makeMap hH19 fun m21 w22 hH23 => ?_)
      refine s_op (o_sight (v := (.agg #[(.pointer (some ⟨pb, 0, none⟩)), (.slice p_ (List.replicate n blankS).length c_), (.map (some m21))])) (fun _ => by kernel_rfl) ?_)
      refine s_op (o_box (cs := #[(.pointer (some ⟨pb, 0, none⟩)), (.slice p_ (List.replicate n blankS).length c_), (.map (some m21))]) rfl rfl hH23 fun b24 w25 hH26 => ?_)
      refine s_op (o_assign (v := (.pointer (some ⟨b24, 0, none⟩))) rfl ?_)
      refine s_nil ?_
      refine t_norm (hK8 _ _ ?_)
      refine wp_ret ?_
      refine c_ret1 Try.results23  (v := (.pointer (some ⟨b24, 0, none⟩))) rfl ?_
      have hH27 : Has E w25 [s16, [Hp.one m21 (.map #[] 0)], [Hp.one b24 (.cells #[(.pointer (some ⟨pb, 0, none⟩)), (.slice p_ (List.replicate n blankS).length c_), (.map (some m21))] 137 (0, 0))], R] := ((((hH26.front 4 rfl).front 1 rfl).front 2 rfl).front 3 rfl).first 4 rfl
      exact ⟨_, _, rfl, ⟨_, _, _, _, _, rfl, ho17, MapV.nil⟩, hH27.close3⟩
set_option maxHeartbeats 4000000 in
theorem new_bad {E w : World} {R : List Hp} (hH : Has E w [R]) {v : Value} {n : Int} (hn : n < 1 ∨ 4096 < n) :
    Calls Try.prog 23 #[v, (.int .i64 n)] w fun e w' => e = .returned (.pointer none) ∧ Has E w' [R] := by
  refine c_enter (args := [v, (.int .i64 n)]) Try.func23 rfl Try.ntmps23 (by simp) ?_
  refine wp_seq_k fun K1 hK1 => ?_
  refine c_region ?_
  refine s_op (o_assign (v := (.pointer none)) rfl ?_)
  refine s_nil ?_
  refine t_norm (hK1 _ _ ?_)
  refine wp_seq_k fun K2 hK2 => ?_
  refine wp_seq_k fun K3 hK3 => ?_
  refine c_region ?_
  refine s_op (o_move (v := (.int .i64 n)) rfl ?_)
  refine s_op (o_lss (a := n) (b := 1) rfl rfl ?_)
  refine s_op (o_move (v := (.bool (decide (n < 1)))) rfl ?_)
  by_cases h4 : n < 1
  · -- n < 1
    refine s_off (b' := true) 7 rfl (congrArg Value.bool (decide_eq_true h4)) rfl ?_
    refine s_off (b' := true) 7 rfl (congrArg Value.bool (decide_eq_true h4)) rfl ?_
    refine s_op (o_pick_t (u := (.bool true)) ((rfl : _ = _).trans (congrArg Value.bool (decide_eq_true h4))) rfl ?_)
    refine s_nil ?_
    refine t_norm (hK3 _ _ ?_)
    refine c_true rfl rfl ?_
    refine wp_seq_k fun K5 hK5 => ?_
    refine c_region ?_
    refine s_op (o_assign (v := (.pointer none)) rfl ?_)
    refine s_nil ?_
    refine t_norm (hK5 _ _ ?_)
    refine wp_ret ?_
    refine t_ret (c_ret1 Try.results23  (v := (.pointer none)) rfl ?_)
    exact ⟨rfl, hH⟩
  · -- not: n < 1
    refine s_on 7 rfl (congrArg Value.bool (decide_eq_false h4)) (o_move (v := (.int .i64 n)) rfl ?_)
    refine s_on 7 rfl (congrArg Value.bool (decide_eq_false h4)) (o_gtr (a := n) (b := 4096) rfl rfl ?_)
    refine s_op (o_pick_f (u := (.bool (decide (4096 < n)))) ((rfl : _ = _).trans (congrArg Value.bool (decide_eq_false h4))) rfl ?_)
    refine s_nil ?_
    refine t_norm (hK3 _ _ ?_)
    refine c_cond rfl (fun h6 => ?_) (fun h6 => ?_)
    · -- 4096 < n
      refine wp_seq_k fun K7 hK7 => ?_
      refine c_region ?_
      refine s_op (o_assign (v := (.pointer none)) rfl ?_)
      refine s_nil ?_
      refine t_norm (hK7 _ _ ?_)
      refine wp_ret ?_
      refine t_ret (c_ret1 Try.results23  (v := (.pointer none)) rfl ?_)
      exact ⟨rfl, hH⟩
    · -- not: 4096 < n
      exfalso; omega
end Go.Q
