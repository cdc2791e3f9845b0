/-
  Parts of a walk: what functions of the program compute, each told by a theorem (Qvd4s, Qvd4l, Qvd5, Qvd6, QHeadB, QDevK, QIn, QDevM, QArea, QHeadS, QDv, QTw, QTw2, QTw3, Qvt0, Qvt7, Qvn1, QF8, Qvt1, Qvt10, QBld, QvSB, QvSB2, Qvn2, Qvs1, Qvs2).
-/
import Derived.Test.YtcjjknilhceeeaaGreatDoorB2
import Derived.LoopN
import Derived.Lib.AppendStr
import Derived.Lib.UnsafeStr
import Derived.Lib.Builder
set_option linter.unusedVariables false
set_option linter.unusedSimpArgs false
set_option linter.unnecessarySimpa false
namespace Go.Q
open Go.Proofs
set_option linter.unusedVariables false
set_option maxRecDepth 100000
attribute [local irreducible] wpList OK Code.wp
set_option maxHeartbeats 4000000 in
theorem settle_i {E w : World} {R hL : List Hp} {pb db mb c : Nat} {p : Pw} {v : Value} {es : Array MapEntry} {la : List Bs} {lo : List (Int × Bs)} (hH : Has E w [hL, [Hp.one mb (.map es c)], [Hp.one db (.cells #[(.pointer (some ⟨pb, 0, none⟩)), v, (.map (some mb))] 107 (0, 0))], [Hp.one pb (.cells #[(.bool p.off), (.bool p.armed), (.int .i64 p.left), (.int .i64 p.uses)] 101 (0, 0))], R]) (ho : Own 9 1 v la.length (la.map sV) hL) (hm : MapV iV sV es c lo) (hlo : LoOk lo la.length) {vk : Value} {keep : List Int} (hk_ : Ints R vk keep) :
    Calls Tryz.prog 62 #[(.pointer (some ⟨db, 0, none⟩)), vk] w fun e w' => ∃ hL' es' c', e = .returned (.tuple #[]) ∧ Own 9 1 v (settleS lo la keep).length ((settleS lo la keep).map sV) hL' ∧ MapV iV sV es' c' ([] : List (Int × Bs)) ∧ Has E w' [hL', [Hp.one mb (.map es' c')], [Hp.one db (.cells #[(.pointer (some ⟨pb, 0, none⟩)), v, (.map (some mb))] 107 (0, 0))], [Hp.one pb (.cells #[(.bool p.off), (.bool p.armed), (.int .i64 p.left), (.int .i64 p.uses)] 101 (0, 0))], R] := by
  have hnk := hk_.le
  refine c_enter (args := [(.pointer (some ⟨db, 0, none⟩)), vk]) Tryz.func62 rfl Tryz.ntmps62 (by simp) ?_
  refine wp_seq_k fun K1 hK1 => ?_
  refine wp_seq_k fun K2 hK2 => ?_
  refine c_region ?_
  refine s_op (o_move (v := vk) rfl ?_)
  refine s_op (o_lenS Tryz.underlying40 rfl hk_ ?_)
  refine s_op (o_move (v := (.int .i64 0)) rfl ?_)
  refine s_nil ?_
  refine t_norm (hK2 _ _ ?_)
  refine wp_block ?_
  let I4 : Nat → (Nat → Value) → World → Prop := fun n__ r__ w__ => ∃ (k : Nat) (h2 : List Hp) (la2 : List Bs), n__ = keep.length - k ∧ Has E w__ [h2, [Hp.one mb (.map es c)], [Hp.one db (.cells #[(.pointer (some ⟨pb, 0, none⟩)), v, (.map (some mb))] 107 (0, 0))], [Hp.one pb (.cells #[(.bool p.off), (.bool p.armed), (.int .i64 p.left), (.int .i64 p.uses)] 101 (0, 0))], R] ∧ (k ≤ keep.length) ∧ (Own 9 1 v la2.length (la2.map sV) h2) ∧ (la2 = settleS lo la (keep.take k)) ∧ r__ 0 = (.pointer (some ⟨db, 0, none⟩)) ∧ r__ 1 = vk ∧ r__ 8 = vk ∧ r__ 9 = (.int .i64 ((keep.length : Nat) : Int)) ∧ r__ 10 = (.int .i64 (k : Int))
  refine c_loop I4 _ ⟨0, hL, la, rfl, hH, Nat.zero_le _, ho, rfl, rfl, rfl, rfl, rfl, rfl⟩ ?_
  rintro n_ r7 w5 ⟨k, h2, la2, rfl, hH6, hk, ho2, hla, e3_0, e3_1, e3_8, e3_9, e3_10⟩
  have hl2 : la2.length = la.length := (by rw [hla, settle_len])
  refine wp_seq_k fun K8 hK8 => ?_
  refine c_region ?_
  refine s_op (o_lss (a := (k : Int)) (b := ((keep.length : Nat) : Int)) e3_10 e3_9 ?_)
  refine s_nil ?_
  refine t_norm (hK8 _ _ ?_)
  refine wp_seq_k fun K9 hK9 => ?_
  refine c_cond rfl (fun h10 => ?_) (fun h10 => ?_)
  · -- (k : Int) < ((keep.length : Nat) : Int)
    refine wp_skip ?_
    refine t_norm (hK9 _ _ ?_)
    refine wp_seq_k fun K11 hK11 => ?_
    refine wp_block ?_
    refine wp_seq_k fun K12 hK12 => ?_
    refine c_region ?_
    obtain ⟨x16, hx17⟩ : ∃ x_, keep[((k : Int)).toNat]? = some x_ := get_some (by omega)
    refine s_op (o_index1 Tryz.underlying40 ti3 e3_8 hk_ e3_10 (by omega) hx17 fun b13 o14 hc15 => ?_)
    refine s_op (o_load1 (v := (.int .i64 x16)) Tryz.underlying3 rfl rfl hH6 (seg_sub 4 rfl) hc15 ?_)
    refine s_op (o_assign (v := (.int .i64 x16)) rfl ?_)
    refine s_nil ?_
    refine t_norm (hK12 _ _ ?_)
    refine wp_seq_k fun K18 hK18 => ?_
    refine c_region ?_
    refine s_op (o_move (v := (.pointer (some ⟨db, 0, none⟩))) e3_0 ?_)
    refine s_op (o_nilCheck rfl ?_)
    refine s_op (o_fieldAddr (k := 2) (fun _ => by kernel_rfl) rfl ?_)
    refine s_op (o_load1 (v := (.map (some mb))) Tryz.underlying105 rfl rfl hH6 (seg_sub 2 rfl) (CellsAt.one rfl) ?_)
    refine s_op (o_move (v := (.int .i64 x16)) rfl ?_)
    refine s_op (o_lookupSk (L := [Hp.one mb (.map es c)]) (k := x16) Tryz.underlying105 (key_int Tryz.underlying3) ti9 rfl rfl hH6 (seg_sub 1 rfl) rfl hm ?_)
    refine s_op (o_move (v := (.tuple #[(S ((getB lo x16).getD [])), (.bool ((getB lo x16).isSome))])) rfl ?_)
    refine s_op (o_extract (v := (S ((getB lo x16).getD []))) rfl rfl ?_)
    refine s_op (o_extract (v := (.bool ((getB lo x16).isSome))) rfl rfl ?_)
    refine s_op (o_assign (v := (S ((getB lo x16).getD []))) rfl ?_)
    refine s_op (o_assign (v := (.bool ((getB lo x16).isSome))) rfl ?_)
    refine s_nil ?_
    refine t_norm (hK18 _ _ ?_)
    refine wp_seq_k fun K19 hK19 => ?_
    refine c_region ?_
    refine s_op (o_move (v := (.bool ((getB lo x16).isSome))) rfl ?_)
    refine s_nil ?_
    refine t_norm (hK19 _ _ ?_)
    refine c_condb rfl (fun h20 => ?_) (fun h20 => ?_)
    · -- (getB lo x16).isSome
      have hin_ := hlo.get h20
      unfold inS at hin_
      refine c_region ?_
      refine s_op (o_move (v := (.pointer (some ⟨db, 0, none⟩))) e3_0 ?_)
      refine s_op (o_nilCheck rfl ?_)
      refine s_op (o_fieldAddr (k := 1) (fun _ => by kernel_rfl) rfl ?_)
      refine s_op (o_load1 (v := v) Tryz.underlying102 rfl rfl hH6 (seg_sub 2 rfl) (CellsAt.one rfl) ?_)
      refine s_op (o_move (v := (.int .i64 x16)) rfl ?_)
      refine s_op (o_move (v := (S ((getB lo x16).getD []))) rfl ?_)
      refine s_op (o_ownAddr Tryz.underlying102 ti9 rfl ho2 rfl (by omega) (by first | omega | (simp only [List.length_append, List.length_cons, List.length_nil, List.length_set]; omega)) fun b21 ho22 => ?_)
      refine s_eff (o_ownStore (f := sV) (l := la2) (a := ((getB lo x16).getD [])) ti9 rfl rfl rfl ho22 (by first | omega | (simp only [List.length_append, List.length_cons, List.length_nil, List.length_set]; omega)) hH6 fun s23 w24 ho25 hH26 => ?_)
      refine s_nil ?_
      refine b_norm ?_
      refine t_norm (hK11 _ _ ?_)
      refine c_region ?_
      refine s_op (o_add (a := (k : Int)) (b := 1) e3_10 rfl (w64 (by omega) (by omega)) ?_)
      refine s_op (o_move (v := (.int .i64 ((k : Int) + 1))) rfl ?_)
      refine s_nil ?_
      refine t_norm ⟨keep.length - (k + 1), _, rfl, ?_, ?_⟩
      · omega
      · exact ⟨(k + 1), s23, (la2.set ((x16).toNat) ((getB lo x16).getD [])), rfl, hH26, (by omega), (ho25), (by rw [settle_yes (show keep[k]? = some _ from hx17) h20, ← hla]), e3_0, e3_1, e3_8, e3_9, rfl⟩
    · -- not: (getB lo x16).isSome
      refine wp_skip ?_
      refine b_norm ?_
      refine t_norm (hK11 _ _ ?_)
      refine c_region ?_
      refine s_op (o_add (a := (k : Int)) (b := 1) e3_10 rfl (w64 (by omega) (by omega)) ?_)
      refine s_op (o_move (v := (.int .i64 ((k : Int) + 1))) rfl ?_)
      refine s_nil ?_
      refine t_norm ⟨keep.length - (k + 1), _, rfl, ?_, ?_⟩
      · omega
      · exact ⟨(k + 1), h2, la2, rfl, hH6, (by omega), (ho2), (by rw [settle_no (show keep[k]? = some _ from hx17) h20, ← hla]), e3_0, e3_1, e3_8, e3_9, rfl⟩
  · -- not: (k : Int) < ((keep.length : Nat) : Int)
    refine wp_exit ?_
    refine t_exit (t_exit (x_in (?_)))
    refine t_norm (hK1 _ _ ?_)
    refine c_region ?_
    refine s_op (o_move (v := (.pointer (some ⟨db, 0, none⟩))) e3_0 ?_)
    refine s_op (o_nilCheck rfl ?_)
    refine s_op (o_fieldAddr (k := 2) (fun _ => by kernel_rfl) rfl ?_)
    refine s_op (o_load1 (v := (.map (some mb))) Tryz.underlying105 rfl rfl hH6 (seg_sub 2 rfl) (CellsAt.one rfl) ?_)
    refine s_eff (o_clearMap (gk := iV) (f := sV) Tryz.underlying105 rfl (hH6.front 1 rfl) hm fun es27 c28 w29 he30 hH31 => ?_)
    refine s_nil ?_
    refine c_end0 Tryz.results62  ?_
    have hH32 : Has E w29 [h2, [Hp.one mb (.map es27 c28)], [Hp.one db (.cells #[(.pointer (some ⟨pb, 0, none⟩)), v, (.map (some mb))] 107 (0, 0))], [Hp.one pb (.cells #[(.bool p.off), (.bool p.armed), (.int .i64 p.left), (.int .i64 p.uses)] 101 (0, 0))], R] := (((((hH31.front 4 rfl).front 4 rfl).front 4 rfl).front 3 rfl).front 4 rfl).first 5 rfl
    have e_ : k = keep.length := by omega
    rw [e_, List.take_length] at hla
    exact ⟨_, _, _, rfl, by rw [← hla]; exact ho2, he30, hH32⟩
end Go.Q
namespace Go.Q
open Go.Proofs
set_option linter.unusedVariables false
set_option maxRecDepth 100000
attribute [local irreducible] wpList OK Code.wp
set_option maxHeartbeats 4000000 in
theorem loose_i {E w : World} {R hL : List Hp} {pb db mb c : Nat} {p : Pw} {v : Value} {es : Array MapEntry} {la : List Bs} {lo : List (Int × Bs)} (hH : Has E w [hL, [Hp.one mb (.map es c)], [Hp.one db (.cells #[(.pointer (some ⟨pb, 0, none⟩)), v, (.map (some mb))] 107 (0, 0))], [Hp.one pb (.cells #[(.bool p.off), (.bool p.armed), (.int .i64 p.left), (.int .i64 p.uses)] 101 (0, 0))], R]) (ho : Own 9 1 v la.length (la.map sV) hL) (hm : MapV iV sV es c lo) (hlo : LoOk lo la.length) (hla : la.length ≤ 4096) :
    Calls Tryz.prog 20 #[(.pointer (some ⟨db, 0, none⟩))] w fun e w' => ∃ v' hs', e = .returned v' ∧ Own 3 1 v' (keysS lo).length ((keysS lo).map iV) hs' ∧ Has E w' [hs', hL, [Hp.one mb (.map es c)], [Hp.one db (.cells #[(.pointer (some ⟨pb, 0, none⟩)), v, (.map (some mb))] 107 (0, 0))], [Hp.one pb (.cells #[(.bool p.off), (.bool p.armed), (.int .i64 p.left), (.int .i64 p.uses)] 101 (0, 0))], R] := by
  refine c_enter (args := [(.pointer (some ⟨db, 0, none⟩))]) Tryz.func20 rfl Tryz.ntmps20 (by simp) ?_
  refine wp_seq_k fun K1 hK1 => ?_
  refine c_region ?_
  refine s_op (o_assign (v := (.slice none 0 0)) rfl ?_)
  refine s_nil ?_
  refine t_norm (hK1 _ _ ?_)
  refine wp_seq_k fun K2 hK2 => ?_
  refine wp_seq_k fun K3 hK3 => ?_
  refine c_region ?_
  refine s_op (o_move (v := (.pointer (some ⟨db, 0, none⟩))) rfl ?_)
  refine s_op (o_pnil (p := some _) Tryz.underlying29 rfl rfl ?_)
  refine s_nil ?_
  refine t_norm (hK3 _ _ ?_)
  refine c_false rfl rfl ?_
  refine wp_skip ?_
  refine t_norm (hK2 _ _ ?_)
  refine wp_seq_k fun K4 hK4 => ?_
  refine c_region ?_
  refine s_op (o_move (v := (.pointer (some ⟨db, 0, none⟩))) rfl ?_)
  refine s_op (o_nilCheck rfl ?_)
  refine s_op (o_fieldAddr (k := 2) (fun _ => by kernel_rfl) rfl ?_)
  refine s_op (o_load1 (v := (.map (some mb))) Tryz.underlying105 rfl rfl hH (seg_sub 2 rfl) (CellsAt.one rfl) ?_)
  refine s_op (o_callf (vs := #[(.map (some mb))]) ca58 rfl (args1 rfl) (mkeys_c hH.all mb) ?_)
  rintro _ w9 ⟨b5, rfl, hX7⟩
  refine ⟨_, rfl, ?_⟩
  have hH8 : Has E w9 [[Hp.one b5 (.cells #[(.map (some mb))] 105 (0, 0))], hL, [Hp.one mb (.map es c)], [Hp.one db (.cells #[(.pointer (some ⟨pb, 0, none⟩)), v, (.map (some mb))] 107 (0, 0))], [Hp.one pb (.cells #[(.bool p.off), (.bool p.armed), (.int .i64 p.left), (.int .i64 p.uses)] 101 (0, 0))], R] := hX7.of_all1
  refine s_op (o_callf (vs := #[(.func (.func 101) #[] #[.pointer (some ⟨b5, 0, none⟩)])]) ca57 rfl (args1 rfl) (skeys_c ((hH8.front 2 rfl).front 1 rfl).all2 hm (fun q hq => wf_of (hlo q hq).1 (by omega)) (lo_le hm hlo (by omega))) ?_)
  rintro _ w15 ⟨v10, s11, rfl, ho12, hX13⟩
  refine ⟨_, rfl, ?_⟩
  have hH14 : Has E w15 [s11, [Hp.one b5 (.cells #[(.map (some mb))] 105 (0, 0))], [Hp.one mb (.map es c)], hL, [Hp.one db (.cells #[(.pointer (some ⟨pb, 0, none⟩)), v, (.map (some mb))] 107 (0, 0))], [Hp.one pb (.cells #[(.bool p.off), (.bool p.armed), (.int .i64 p.left), (.int .i64 p.uses)] 101 (0, 0))], R] := hX13.of_all3
  refine s_op (o_assign (v := v10) rfl ?_)
  refine s_nil ?_
  refine t_norm (hK4 _ _ ?_)
  refine wp_ret ?_
  refine c_ret1 Tryz.results20  (v := v10) rfl ?_
  have hH16 : Has E w15 [s11, hL, [Hp.one mb (.map es c)], [Hp.one db (.cells #[(.pointer (some ⟨pb, 0, none⟩)), v, (.map (some mb))] 107 (0, 0))], [Hp.one pb (.cells #[(.bool p.off), (.bool p.armed), (.int .i64 p.left), (.int .i64 p.uses)] 101 (0, 0))], R] := Has.pick hH14 [0, 2, 1, 1, 1, 1] (by kernel_rfl)
  exact ⟨_, _, rfl, ho12, hH16⟩
end Go.Q
namespace Go.Q
open Go.Proofs
set_option linter.unusedVariables false
set_option maxRecDepth 100000
attribute [local irreducible] wpList OK Code.wp
set_option maxHeartbeats 4000000 in
theorem write_i {E w : World} {R hL : List Hp} {pb db mb c : Nat} {p : Pw} {v : Value} {es : Array MapEntry} {la : List Bs} {lo : List (Int × Bs)} (hH : Has E w [hL, [Hp.one mb (.map es c)], [Hp.one db (.cells #[(.pointer (some ⟨pb, 0, none⟩)), v, (.map (some mb))] 107 (0, 0))], [Hp.one pb (.cells #[(.bool p.off), (.bool p.armed), (.int .i64 p.left), (.int .i64 p.uses)] 101 (0, 0))], R]) (ho : Own 9 1 v la.length (la.map sV) hL) (hm : MapV iV sV es c lo) (hp : PwOk p) (hla : la.length ≤ 4096) (n : Int) {vd : Value} {l : List Bs} (hd : Sl R 1 vd l.length (l.map sV)) (hn : l.length ≤ 1000000) (hl : l.flatten.length ≤ 1000000000) :
    Calls Tryz.prog 52 #[(.pointer (some ⟨db, 0, none⟩)), (.int .i64 n), vd] w fun e w' => ∃ es' c', e = .returned (.int .i64 (writeE p la.length n l.flatten)) ∧ MapV iV sV es' c' (writeS p la.length lo n l.flatten) ∧ Has E w' [hL, [Hp.one mb (.map es' c')], [Hp.one db (.cells #[(.pointer (some ⟨pb, 0, none⟩)), v, (.map (some mb))] 107 (0, 0))], [Hp.one pb (.cells #[(.bool (useS p).off), (.bool (useS p).armed), (.int .i64 (useS p).left), (.int .i64 (useS p).uses)] 101 (0, 0))], R] := by
  have hn_ := hd.le
  refine c_enter (args := [(.pointer (some ⟨db, 0, none⟩)), (.int .i64 n), vd]) Tryz.func52 rfl Tryz.ntmps52 (by simp) ?_
  refine wp_seq_k fun K1 hK1 => ?_
  refine c_region ?_
  refine s_op (o_assign (v := (.int .i64 0)) rfl ?_)
  refine s_nil ?_
  refine t_norm (hK1 _ _ ?_)
  refine wp_seq_k fun K2 hK2 => ?_
  refine wp_seq_k fun K3 hK3 => ?_
  refine c_region ?_
  refine s_op (o_move (v := (.pointer (some ⟨db, 0, none⟩))) rfl ?_)
  refine s_op (o_pnil (p := some _) Tryz.underlying29 rfl rfl ?_)
  refine s_nil ?_
  refine t_norm (hK3 _ _ ?_)
  refine c_false rfl rfl ?_
  refine wp_skip ?_
  refine t_norm (hK2 _ _ ?_)
  refine wp_seq_k fun K4 hK4 => ?_
  refine wp_seq_k fun K5 hK5 => ?_
  refine c_region ?_
  refine s_op (o_move (v := (.pointer (some ⟨db, 0, none⟩))) rfl ?_)
  refine s_op (o_nilCheck rfl ?_)
  refine s_op (o_fieldAddr (k := 0) (fun _ => by kernel_rfl) rfl ?_)
  refine s_op (o_load1 (v := (.pointer (some ⟨pb, 0, none⟩))) Tryz.underlying99 rfl rfl hH (seg_sub 2 rfl) (CellsAt.one rfl) ?_)
  refine s_op (o_callf (vs := #[(.pointer (some ⟨pb, 0, none⟩))]) ca67 rfl (args1 rfl) (use_c (p := p) (hH.front 3 rfl).all1 hp) ?_)
  rintro _ w8 ⟨rfl, hX6⟩
  refine ⟨_, rfl, ?_⟩
  have hH7 : Has E w8 [[Hp.one pb (.cells #[(.bool (useS p).off), (.bool (useS p).armed), (.int .i64 (useS p).left), (.int .i64 (useS p).uses)] 101 (0, 0))], hL, [Hp.one mb (.map es c)], [Hp.one db (.cells #[(.pointer (some ⟨pb, 0, none⟩)), v, (.map (some mb))] 107 (0, 0))], R] := hX6.of_all1
  refine s_op (o_not rfl ?_)
  refine s_nil ?_
  refine t_norm (hK5 _ _ ?_)
  refine c_condb rfl (fun h9 => ?_) (fun h9 => ?_)
  · -- !(useB p)
    have h9_n : (useB p) = false := by simpa using h9
    refine wp_seq_k fun K10 hK10 => ?_
    refine c_region ?_
    refine s_op (o_assign (v := (.int .i64 6)) rfl ?_)
    refine s_nil ?_
    refine t_norm (hK10 _ _ ?_)
    refine wp_ret ?_
    refine t_ret (c_ret1 Tryz.results52  (v := (.int .i64 6)) rfl ?_)
    have hH11 : Has E w8 [hL, [Hp.one mb (.map es c)], [Hp.one db (.cells #[(.pointer (some ⟨pb, 0, none⟩)), v, (.map (some mb))] 107 (0, 0))], [Hp.one pb (.cells #[(.bool (useS p).off), (.bool (useS p).armed), (.int .i64 (useS p).left), (.int .i64 (useS p).uses)] 101 (0, 0))], R] := (((((hH7.front 4 rfl).front 1 rfl).front 4 rfl).front 4 rfl).front 4 rfl).first 5 rfl
    exact ⟨_, _, by rw [writeE, if_neg (ne_true_of_eq_false h9_n)], by rw [writeS, if_neg (fun g => (ne_true_of_eq_false h9_n) g.1)]; exact hm, hH11⟩
  · -- not: !(useB p)
    have h9_n : (useB p) = true := by simpa using h9
    refine wp_skip ?_
    refine t_norm (hK4 _ _ ?_)
    refine wp_seq_k fun K12 hK12 => ?_
    refine c_region ?_
    refine s_op (o_move (v := vd) rfl ?_)
    refine s_op (o_callf (vs := #[vd]) ca68 rfl (args1 rfl) (filled_c hH7.all (l := l) (hd.mono (seg_sub 4 rfl)) (by omega) (by omega)) ?_)
    rintro _ w15 ⟨rfl, hX13⟩
    refine ⟨_, rfl, ?_⟩
    have hH14 := hX13.of_all
    refine s_op (o_move (v := (.tuple #[(S (if l.flatten.length ≤ 64 then fillS l.flatten else [])), (.bool (decide (l.flatten.length ≤ 64)))])) rfl ?_)
    refine s_op (o_extract (v := (S (if l.flatten.length ≤ 64 then fillS l.flatten else []))) rfl rfl ?_)
    refine s_op (o_extract (v := (.bool (decide (l.flatten.length ≤ 64)))) rfl rfl ?_)
    refine s_op (o_assign (v := (S (if l.flatten.length ≤ 64 then fillS l.flatten else []))) rfl ?_)
    refine s_op (o_assign (v := (.bool (decide (l.flatten.length ≤ 64)))) rfl ?_)
    refine s_nil ?_
    refine t_norm (hK12 _ _ ?_)
    refine wp_seq_k fun K16 hK16 => ?_
    refine wp_seq_k fun K17 hK17 => ?_
    refine c_region ?_
    refine s_op (o_move (v := (.bool (decide (l.flatten.length ≤ 64)))) rfl ?_)
    refine s_op (o_not2 (b := decide (l.flatten.length ≤ 64)) (b' := decide (¬ (l.flatten.length ≤ 64))) rfl not_dec ?_)
    refine s_op (o_move (v := (.bool (decide (¬ (l.flatten.length ≤ 64))))) rfl ?_)
    by_cases h18 : ¬ (l.flatten.length ≤ 64)
    · -- ¬ (l.flatten.length ≤ 64)
      refine s_off (b' := true) 24 rfl (congrArg Value.bool (decide_eq_true h18)) rfl ?_
      refine s_off (b' := true) 24 rfl (congrArg Value.bool (decide_eq_true h18)) rfl ?_
      refine s_off (b' := true) 24 rfl (congrArg Value.bool (decide_eq_true h18)) rfl ?_
      refine s_off (b' := true) 24 rfl (congrArg Value.bool (decide_eq_true h18)) rfl ?_
      refine s_op (o_pick_t (u := (.bool true)) ((rfl : _ = _).trans (congrArg Value.bool (decide_eq_true h18))) rfl ?_)
      refine s_nil ?_
      refine t_norm (hK17 _ _ ?_)
      refine c_true rfl rfl ?_
      refine wp_seq_k fun K19 hK19 => ?_
      refine c_region ?_
      refine s_op (o_assign (v := (.int .i64 1)) rfl ?_)
      refine s_nil ?_
      refine t_norm (hK19 _ _ ?_)
      refine wp_ret ?_
      refine t_ret (c_ret1 Tryz.results52  (v := (.int .i64 1)) rfl ?_)
      have hH20 : Has E w15 [hL, [Hp.one mb (.map es c)], [Hp.one db (.cells #[(.pointer (some ⟨pb, 0, none⟩)), v, (.map (some mb))] 107 (0, 0))], [Hp.one pb (.cells #[(.bool (useS p).off), (.bool (useS p).armed), (.int .i64 (useS p).left), (.int .i64 (useS p).uses)] 101 (0, 0))], R] := (((((hH14.front 4 rfl).front 1 rfl).front 4 rfl).front 4 rfl).front 4 rfl).first 5 rfl
      exact ⟨_, _, by rw [writeE, if_pos h9_n, if_neg (fun g => h18 g.1)], by rw [writeS, if_neg (fun g => h18 g.2.1)]; exact hm, hH20⟩
    · -- not: ¬ (l.flatten.length ≤ 64)
      refine s_on 24 rfl (congrArg Value.bool (decide_eq_false h18)) (o_move (v := (.pointer (some ⟨db, 0, none⟩))) rfl ?_)
      refine s_on 24 rfl (congrArg Value.bool (decide_eq_false h18)) (o_move (v := (.int .i64 n)) rfl ?_)
      refine s_on 24 rfl (congrArg Value.bool (decide_eq_false h18)) (o_callf (vs := #[(.pointer (some ⟨db, 0, none⟩)), (.int .i64 n)]) ca69 rfl (args2 rfl rfl) (has_i (p := (useS p)) (la := la) (lo := lo) (((hH14.front 3 rfl).front 3 rfl).front 3 rfl).all4 ho hm n) ?_)
      rintro _ w23 ⟨rfl, hX21⟩
      refine ⟨_, rfl, ?_⟩
      have hH22 : Has E w23 [hL, [Hp.one mb (.map es c)], [Hp.one db (.cells #[(.pointer (some ⟨pb, 0, none⟩)), v, (.map (some mb))] 107 (0, 0))], [Hp.one pb (.cells #[(.bool (useS p).off), (.bool (useS p).armed), (.int .i64 (useS p).left), (.int .i64 (useS p).uses)] 101 (0, 0))], R] := hX21.of_all4
      refine s_on 24 rfl (congrArg Value.bool (decide_eq_false h18)) (o_not2 (b := decide (inS n la.length)) (b' := decide (¬ (inS n la.length))) rfl not_dec ?_)
      refine s_op (o_pick_f (u := (.bool (decide (¬ (inS n la.length))))) ((rfl : _ = _).trans (congrArg Value.bool (decide_eq_false h18))) rfl ?_)
      refine s_nil ?_
      refine t_norm (hK17 _ _ ?_)
      refine c_cond rfl (fun h24 => ?_) (fun h24 => ?_)
      · -- ¬ (inS n la.length)
        refine wp_seq_k fun K25 hK25 => ?_
        refine c_region ?_
        refine s_op (o_assign (v := (.int .i64 1)) rfl ?_)
        refine s_nil ?_
        refine t_norm (hK25 _ _ ?_)
        refine wp_ret ?_
        refine t_ret (c_ret1 Tryz.results52  (v := (.int .i64 1)) rfl ?_)
        exact ⟨_, _, by rw [writeE, if_pos h9_n, if_neg (fun g => h24 g.2)], by rw [writeS, if_neg (fun g => h24 g.2.2)]; exact hm, hH22⟩
      · -- not: ¬ (inS n la.length)
        refine wp_skip ?_
        refine t_norm (hK16 _ _ ?_)
        refine wp_seq_k fun K26 hK26 => ?_
        refine c_region ?_
        refine s_op (o_move (v := (.pointer (some ⟨db, 0, none⟩))) rfl ?_)
        refine s_op (o_nilCheck rfl ?_)
        refine s_op (o_fieldAddr (k := 2) (fun _ => by kernel_rfl) rfl ?_)
        refine s_op (o_load1 (v := (.map (some mb))) Tryz.underlying105 rfl rfl hH22 (seg_sub 2 rfl) (CellsAt.one rfl) ?_)
        refine s_op (o_move (v := (.int .i64 n)) rfl ?_)
        refine s_op (o_move (v := (S (if l.flatten.length ≤ 64 then fillS l.flatten else []))) rfl ?_)
        refine s_eff (o_mapUpdateB (gk := iV) (f := sV) (k := n) (v := (if l.flatten.length ≤ 64 then fillS l.flatten else [])) Tryz.underlying105 (key_int Tryz.underlying3) rfl rfl rfl (hH22.front 1 rfl) hm fun es27 c28 w29 he30 hH31 => ?_)
        refine s_nil ?_
        refine t_norm (hK26 _ _ ?_)
        refine wp_seq_k fun K32 hK32 => ?_
        refine c_region ?_
        refine s_op (o_assign (v := (.int .i64 0)) rfl ?_)
        refine s_nil ?_
        refine t_norm (hK32 _ _ ?_)
        refine wp_ret ?_
        refine c_ret1 Tryz.results52  (v := (.int .i64 0)) rfl ?_
        have hH33 : Has E w29 [hL, [Hp.one mb (.map es27 c28)], [Hp.one db (.cells #[(.pointer (some ⟨pb, 0, none⟩)), v, (.map (some mb))] 107 (0, 0))], [Hp.one pb (.cells #[(.bool (useS p).off), (.bool (useS p).armed), (.int .i64 (useS p).left), (.int .i64 (useS p).uses)] 101 (0, 0))], R] := (((((hH31.front 4 rfl).front 4 rfl).front 4 rfl).front 3 rfl).front 4 rfl).first 5 rfl
        exact ⟨_, _, by rw [writeE, if_pos h9_n, if_pos ⟨(Classical.not_not.1 h18), (Classical.not_not.1 h24)⟩], by rw [writeS, if_pos ⟨h9_n, (Classical.not_not.1 h18), (Classical.not_not.1 h24)⟩]; rw [if_pos (Classical.not_not.1 h18)] at he30; exact he30, hH33⟩
set_option maxHeartbeats 4000000 in
theorem sync_i {E w : World} {R hL : List Hp} {pb db mb c : Nat} {p : Pw} {v : Value} {es : Array MapEntry} {la : List Bs} {lo : List (Int × Bs)} (hH : Has E w [hL, [Hp.one mb (.map es c)], [Hp.one db (.cells #[(.pointer (some ⟨pb, 0, none⟩)), v, (.map (some mb))] 107 (0, 0))], [Hp.one pb (.cells #[(.bool p.off), (.bool p.armed), (.int .i64 p.left), (.int .i64 p.uses)] 101 (0, 0))], R]) (ho : Own 9 1 v la.length (la.map sV) hL) (hm : MapV iV sV es c lo) (hp : PwOk p) (hla : la.length ≤ 4096) (hlo : LoOk lo la.length) :
    Calls Tryz.prog 27 #[(.pointer (some ⟨db, 0, none⟩))] w fun e w' => ∃ hL' es' c', e = .returned (.int .i64 (syncE p)) ∧ Own 9 1 v (syncA p la lo).length ((syncA p la lo).map sV) hL' ∧ MapV iV sV es' c' (syncO p lo) ∧ Has E w' [hL', [Hp.one mb (.map es' c')], [Hp.one db (.cells #[(.pointer (some ⟨pb, 0, none⟩)), v, (.map (some mb))] 107 (0, 0))], [Hp.one pb (.cells #[(.bool (useS p).off), (.bool (useS p).armed), (.int .i64 (useS p).left), (.int .i64 (useS p).uses)] 101 (0, 0))], R] := by
  refine c_enter (args := [(.pointer (some ⟨db, 0, none⟩))]) Tryz.func27 rfl Tryz.ntmps27 (by simp) ?_
  refine wp_seq_k fun K1 hK1 => ?_
  refine c_region ?_
  refine s_op (o_assign (v := (.int .i64 0)) rfl ?_)
  refine s_nil ?_
  refine t_norm (hK1 _ _ ?_)
  refine wp_seq_k fun K2 hK2 => ?_
  refine wp_seq_k fun K3 hK3 => ?_
  refine c_region ?_
  refine s_op (o_move (v := (.pointer (some ⟨db, 0, none⟩))) rfl ?_)
  refine s_op (o_pnil (p := some _) Tryz.underlying29 rfl rfl ?_)
  refine s_nil ?_
  refine t_norm (hK3 _ _ ?_)
  refine c_false rfl rfl ?_
  refine wp_skip ?_
  refine t_norm (hK2 _ _ ?_)
  refine wp_seq_k fun K4 hK4 => ?_
  refine wp_seq_k fun K5 hK5 => ?_
  refine c_region ?_
  refine s_op (o_move (v := (.pointer (some ⟨db, 0, none⟩))) rfl ?_)
  refine s_op (o_nilCheck rfl ?_)
  refine s_op (o_fieldAddr (k := 0) (fun _ => by kernel_rfl) rfl ?_)
  refine s_op (o_load1 (v := (.pointer (some ⟨pb, 0, none⟩))) Tryz.underlying99 rfl rfl hH (seg_sub 2 rfl) (CellsAt.one rfl) ?_)
  refine s_op (o_callf (vs := #[(.pointer (some ⟨pb, 0, none⟩))]) ca67 rfl (args1 rfl) (use_c (p := p) (hH.front 3 rfl).all1 hp) ?_)
  rintro _ w8 ⟨rfl, hX6⟩
  refine ⟨_, rfl, ?_⟩
  have hH7 : Has E w8 [[Hp.one pb (.cells #[(.bool (useS p).off), (.bool (useS p).armed), (.int .i64 (useS p).left), (.int .i64 (useS p).uses)] 101 (0, 0))], hL, [Hp.one mb (.map es c)], [Hp.one db (.cells #[(.pointer (some ⟨pb, 0, none⟩)), v, (.map (some mb))] 107 (0, 0))], R] := hX6.of_all1
  refine s_op (o_not rfl ?_)
  refine s_nil ?_
  refine t_norm (hK5 _ _ ?_)
  refine c_condb rfl (fun h9 => ?_) (fun h9 => ?_)
  · -- !(useB p)
    have h9_n : (useB p) = false := by simpa using h9
    refine wp_seq_k fun K10 hK10 => ?_
    refine c_region ?_
    refine s_op (o_assign (v := (.int .i64 6)) rfl ?_)
    refine s_nil ?_
    refine t_norm (hK10 _ _ ?_)
    refine wp_ret ?_
    refine t_ret (c_ret1 Tryz.results27  (v := (.int .i64 6)) rfl ?_)
    have hH11 : Has E w8 [hL, [Hp.one mb (.map es c)], [Hp.one db (.cells #[(.pointer (some ⟨pb, 0, none⟩)), v, (.map (some mb))] 107 (0, 0))], [Hp.one pb (.cells #[(.bool (useS p).off), (.bool (useS p).armed), (.int .i64 (useS p).left), (.int .i64 (useS p).uses)] 101 (0, 0))], R] := (((((hH7.front 4 rfl).front 1 rfl).front 4 rfl).front 4 rfl).front 4 rfl).first 5 rfl
    exact ⟨_, _, _, by rw [syncE, if_neg (ne_true_of_eq_false h9_n)], by rw [syncA, if_neg (ne_true_of_eq_false h9_n)]; exact ho, by rw [syncO, if_neg (ne_true_of_eq_false h9_n)]; exact hm, hH11⟩
  · -- not: !(useB p)
    have h9_n : (useB p) = true := by simpa using h9
    refine wp_skip ?_
    refine t_norm (hK4 _ _ ?_)
    refine wp_seq_k fun K12 hK12 => ?_
    refine c_region ?_
    refine s_op (o_move (v := (.pointer (some ⟨db, 0, none⟩))) rfl ?_)
    refine s_op (o_move (v := (.pointer (some ⟨db, 0, none⟩))) rfl ?_)
    refine s_op (o_callf (vs := #[(.pointer (some ⟨db, 0, none⟩))]) ca20 rfl (args1 rfl) (loose_i (p := (useS p)) (la := la) (lo := lo) (((hH7.front 3 rfl).front 3 rfl).front 3 rfl).all4 ho hm hlo (by omega)) ?_)
    rintro _ w18 ⟨v13, s14, rfl, ho15, hX16⟩
    refine ⟨_, rfl, ?_⟩
    have hH17 : Has E w18 [s14, hL, [Hp.one mb (.map es c)], [Hp.one db (.cells #[(.pointer (some ⟨pb, 0, none⟩)), v, (.map (some mb))] 107 (0, 0))], [Hp.one pb (.cells #[(.bool (useS p).off), (.bool (useS p).armed), (.int .i64 (useS p).left), (.int .i64 (useS p).uses)] 101 (0, 0))], R] := hX16.of_all5
    refine s_op (o_callf (vs := #[(.pointer (some ⟨db, 0, none⟩)), v13]) ca62 rfl (args2 rfl rfl) (settle_i (p := (useS p)) (la := la) (lo := lo) ((((hH17.front 4 rfl).front 4 rfl).front 4 rfl).front 4 rfl).all4 ho hm hlo (keep := (keysS lo)) (ho15.sl.mono (seg_sub 0 rfl))) ?_)
    rintro _ w26 ⟨s19, es21, c22, rfl, ho20, hm23, hX24⟩
    refine ⟨_, rfl, ?_⟩
    have hH25 : Has E w26 [s19, [Hp.one mb (.map es21 c22)], [Hp.one db (.cells #[(.pointer (some ⟨pb, 0, none⟩)), v, (.map (some mb))] 107 (0, 0))], [Hp.one pb (.cells #[(.bool (useS p).off), (.bool (useS p).armed), (.int .i64 (useS p).left), (.int .i64 (useS p).uses)] 101 (0, 0))], s14, R] := hX24.of_all4
    refine s_nil ?_
    refine t_norm (hK12 _ _ ?_)
    refine wp_seq_k fun K27 hK27 => ?_
    refine c_region ?_
    refine s_op (o_assign (v := (.int .i64 0)) rfl ?_)
    refine s_nil ?_
    refine t_norm (hK27 _ _ ?_)
    refine wp_ret ?_
    refine c_ret1 Tryz.results27  (v := (.int .i64 0)) rfl ?_
    have hH28 : Has E w26 [s19, [Hp.one mb (.map es21 c22)], [Hp.one db (.cells #[(.pointer (some ⟨pb, 0, none⟩)), v, (.map (some mb))] 107 (0, 0))], [Hp.one pb (.cells #[(.bool (useS p).off), (.bool (useS p).armed), (.int .i64 (useS p).left), (.int .i64 (useS p).uses)] 101 (0, 0))], R] := (((((hH25.front 5 rfl).front 4 rfl).front 4 rfl).front 4 rfl).front 4 rfl).first 5 rfl
    exact ⟨_, _, _, by rw [syncE, if_pos h9_n], by rw [syncA, if_pos h9_n]; exact ho20, by rw [syncO, if_pos h9_n]; exact hm23, hH28⟩
set_option maxHeartbeats 4000000 in
theorem read_i {E w : World} {R hL : List Hp} {pb db mb c : Nat} {p : Pw} {v : Value} {es : Array MapEntry} {la : List Bs} {lo : List (Int × Bs)} (hH : Has E w [hL, [Hp.one mb (.map es c)], [Hp.one db (.cells #[(.pointer (some ⟨pb, 0, none⟩)), v, (.map (some mb))] 107 (0, 0))], [Hp.one pb (.cells #[(.bool p.off), (.bool p.armed), (.int .i64 p.left), (.int .i64 p.uses)] 101 (0, 0))], R]) (ho : Own 9 1 v la.length (la.map sV) hL) (hm : MapV iV sV es c lo) (n : Int) :
    Calls Tryz.prog 32 #[(.pointer (some ⟨db, 0, none⟩)), (.int .i64 n)] w fun e w' => e = .returned (.tuple #[S (readS p la lo n), .int .i64 (readE p la n)]) ∧ Has E w' [hL, [Hp.one mb (.map es c)], [Hp.one db (.cells #[(.pointer (some ⟨pb, 0, none⟩)), v, (.map (some mb))] 107 (0, 0))], [Hp.one pb (.cells #[(.bool p.off), (.bool p.armed), (.int .i64 p.left), (.int .i64 p.uses)] 101 (0, 0))], R] := by
  refine c_enter (args := [(.pointer (some ⟨db, 0, none⟩)), (.int .i64 n)]) Tryz.func32 rfl Tryz.ntmps32 (by simp) ?_
  refine wp_seq_k fun K1 hK1 => ?_
  refine c_region ?_
  refine s_op (o_assign (v := (S ([] : List UInt8))) rfl ?_)
  refine s_op (o_assign (v := (.int .i64 0)) rfl ?_)
  refine s_nil ?_
  refine t_norm (hK1 _ _ ?_)
  refine wp_seq_k fun K2 hK2 => ?_
  refine wp_block ?_
  refine wp_seq_k fun K3 hK3 => ?_
  refine c_region ?_
  refine s_op (o_move (v := (.pointer (some ⟨db, 0, none⟩))) rfl ?_)
  refine s_op (o_pnil (p := some _) Tryz.underlying29 rfl rfl ?_)
  refine s_op (o_assign (v := (.bool false)) rfl ?_)
  refine s_nil ?_
  refine t_norm (hK3 _ _ ?_)
  refine c_false rfl rfl ?_
  refine wp_seq_k fun K4 hK4 => ?_
  refine c_region ?_
  refine s_op (o_move (v := (.pointer (some ⟨db, 0, none⟩))) rfl ?_)
  refine s_op (o_callf (vs := #[(.pointer (some ⟨db, 0, none⟩))]) ca72 rfl (args1 rfl) (don_i (p := p) (la := la) (lo := lo) ((((hH.front 3 rfl).front 3 rfl).front 3 rfl).front 3 rfl).all4 ho hm ) ?_)
  rintro _ w7 ⟨rfl, hX5⟩
  refine ⟨_, rfl, ?_⟩
  have hH6 : Has E w7 [hL, [Hp.one mb (.map es c)], [Hp.one db (.cells #[(.pointer (some ⟨pb, 0, none⟩)), v, (.map (some mb))] 107 (0, 0))], [Hp.one pb (.cells #[(.bool p.off), (.bool p.armed), (.int .i64 p.left), (.int .i64 p.uses)] 101 (0, 0))], R] := hX5.of_all4
  refine s_op (o_not rfl ?_)
  refine s_op (o_assign (v := (.bool (!(!p.off)))) rfl ?_)
  refine s_nil ?_
  refine t_norm (hK4 _ _ ?_)
  refine c_condb rfl (fun h8 => ?_) (fun h8 => ?_)
  · -- !(!p.off)
    have h8_n : (!p.off) = false := by simpa using h8
    have h8_n_n : p.off = true := by simpa using h8_n
    refine wp_seq_k fun K9 hK9 => ?_
    refine c_region ?_
    refine s_op (o_assign (v := (S ([] : List UInt8))) rfl ?_)
    refine s_op (o_assign (v := (.int .i64 6)) rfl ?_)
    refine s_nil ?_
    refine t_norm (hK9 _ _ ?_)
    refine wp_ret ?_
    refine b_ret (t_ret (c_ret2 Tryz.results32  (v := (S ([] : List UInt8))) rfl (x := (.int .i64 6)) rfl ?_))
    have e1_ : readS p la lo n = ([] : List UInt8) := by rw [readS, if_pos h8_n_n]
    have e2_ : readE p la n = 6 := by rw [readE, if_pos h8_n_n]
    exact ⟨by rw [e1_, e2_], hH6⟩
  · -- not: !(!p.off)
    have h8_n : (!p.off) = true := by simpa using h8
    have h8_n_n : p.off = false := by simpa using h8_n
    refine wp_seq_k fun K10 hK10 => ?_
    refine c_region ?_
    refine s_op (o_move (v := (.pointer (some ⟨db, 0, none⟩))) rfl ?_)
    refine s_op (o_move (v := (.int .i64 n)) rfl ?_)
    refine s_op (o_callf (vs := #[(.pointer (some ⟨db, 0, none⟩)), (.int .i64 n)]) ca69 rfl (args2 rfl rfl) (has_i (p := p) (la := la) (lo := lo) ((((hH6.front 3 rfl).front 3 rfl).front 3 rfl).front 3 rfl).all4 ho hm n) ?_)
    rintro _ w13 ⟨rfl, hX11⟩
    refine ⟨_, rfl, ?_⟩
    have hH12 : Has E w13 [hL, [Hp.one mb (.map es c)], [Hp.one db (.cells #[(.pointer (some ⟨pb, 0, none⟩)), v, (.map (some mb))] 107 (0, 0))], [Hp.one pb (.cells #[(.bool p.off), (.bool p.armed), (.int .i64 p.left), (.int .i64 p.uses)] 101 (0, 0))], R] := hX11.of_all4
    refine s_op (o_not2 (b := decide (inS n la.length)) (b' := decide (¬ (inS n la.length))) rfl not_dec ?_)
    refine s_op (o_assign (v := (.bool (decide (¬ (inS n la.length))))) rfl ?_)
    refine s_nil ?_
    refine t_norm (hK10 _ _ ?_)
    refine c_cond rfl (fun h14 => ?_) (fun h14 => ?_)
    · -- ¬ (inS n la.length)
      refine wp_seq_k fun K15 hK15 => ?_
      refine c_region ?_
      refine s_op (o_assign (v := (S ([] : List UInt8))) rfl ?_)
      refine s_op (o_assign (v := (.int .i64 1)) rfl ?_)
      refine s_nil ?_
      refine t_norm (hK15 _ _ ?_)
      refine wp_ret ?_
      refine b_ret (t_ret (c_ret2 Tryz.results32  (v := (S ([] : List UInt8))) rfl (x := (.int .i64 1)) rfl ?_))
      have e1_ : readS p la lo n = ([] : List UInt8) := by rw [readS, if_neg (ne_true_of_eq_false h8_n_n), if_neg h14]
      have e2_ : readE p la n = 1 := by rw [readE, if_neg (ne_true_of_eq_false h8_n_n), if_neg h14]
      exact ⟨by rw [e1_, e2_], hH12⟩
    · -- not: ¬ (inS n la.length)
      have hin_ : inS n la.length := Classical.not_not.1 h14
      unfold inS at hin_
      refine wp_skip ?_
      refine b_norm ?_
      refine t_norm (hK2 _ _ ?_)
      refine wp_seq_k fun K16 hK16 => ?_
      refine wp_seq_k fun K17 hK17 => ?_
      refine c_region ?_
      refine s_op (o_move (v := (.pointer (some ⟨db, 0, none⟩))) rfl ?_)
      refine s_op (o_nilCheck rfl ?_)
      refine s_op (o_fieldAddr (k := 2) (fun _ => by kernel_rfl) rfl ?_)
      refine s_op (o_load1 (v := (.map (some mb))) Tryz.underlying105 rfl rfl hH12 (seg_sub 2 rfl) (CellsAt.one rfl) ?_)
      refine s_op (o_move (v := (.int .i64 n)) rfl ?_)
      refine s_op (o_lookupSk (L := [Hp.one mb (.map es c)]) (k := n) Tryz.underlying105 (key_int Tryz.underlying3) ti9 rfl rfl hH12 (seg_sub 1 rfl) rfl hm ?_)
      refine s_op (o_move (v := (.tuple #[(S ((getB lo n).getD [])), (.bool ((getB lo n).isSome))])) rfl ?_)
      refine s_op (o_extract (v := (S ((getB lo n).getD []))) rfl rfl ?_)
      refine s_op (o_extract (v := (.bool ((getB lo n).isSome))) rfl rfl ?_)
      refine s_op (o_assign (v := (S ((getB lo n).getD []))) rfl ?_)
      refine s_op (o_assign (v := (.bool ((getB lo n).isSome))) rfl ?_)
      refine s_nil ?_
      refine t_norm (hK17 _ _ ?_)
      refine wp_seq_k fun K18 hK18 => ?_
      refine c_region ?_
      refine s_op (o_move (v := (.bool ((getB lo n).isSome))) rfl ?_)
      refine s_nil ?_
      refine t_norm (hK18 _ _ ?_)
      refine c_condb rfl (fun h19 => ?_) (fun h19 => ?_)
      · -- (getB lo n).isSome
        refine wp_seq_k fun K20 hK20 => ?_
        refine c_region ?_
        refine s_op (o_move (v := (S ((getB lo n).getD []))) rfl ?_)
        refine s_op (o_assign (v := (S ((getB lo n).getD []))) rfl ?_)
        refine s_op (o_assign (v := (.int .i64 0)) rfl ?_)
        refine s_nil ?_
        refine t_norm (hK20 _ _ ?_)
        refine wp_ret ?_
        refine t_ret (c_ret2 Tryz.results32  (v := (S ((getB lo n).getD []))) rfl (x := (.int .i64 0)) rfl ?_)
        have e1_ : readS p la lo n = ((getB lo n).getD []) := by rw [readS, if_neg (ne_true_of_eq_false h8_n_n), if_pos (Classical.not_not.1 h14), if_pos h19]
        have e2_ : readE p la n = 0 := by rw [readE, if_neg (ne_true_of_eq_false h8_n_n), if_pos (Classical.not_not.1 h14)]
        exact ⟨by rw [e1_, e2_], hH12⟩
      · -- not: (getB lo n).isSome
        refine wp_skip ?_
        refine t_norm (hK16 _ _ ?_)
        refine wp_seq_k fun K21 hK21 => ?_
        refine c_region ?_
        refine s_op (o_move (v := (.pointer (some ⟨db, 0, none⟩))) rfl ?_)
        refine s_op (o_nilCheck rfl ?_)
        refine s_op (o_fieldAddr (k := 1) (fun _ => by kernel_rfl) rfl ?_)
        refine s_op (o_load1 (v := v) Tryz.underlying102 rfl rfl hH12 (seg_sub 2 rfl) (CellsAt.one rfl) ?_)
        refine s_op (o_move (v := (.int .i64 n)) rfl ?_)
        obtain ⟨x25, hx26⟩ : ∃ x_, la[(n).toNat]? = some x_ := get_some (by omega)
        refine s_op (o_index1 Tryz.underlying102 ti9 rfl ho.sl rfl (by omega) hx26 fun b22 o23 hc24 => ?_)
        refine s_op (o_load1 (v := (S x25)) Tryz.underlying9 rfl rfl hH12 (seg_sub 0 rfl) hc24 ?_)
        refine s_op (o_assign (v := (S x25)) rfl ?_)
        refine s_op (o_assign (v := (.int .i64 0)) rfl ?_)
        refine s_nil ?_
        refine t_norm (hK21 _ _ ?_)
        refine wp_ret ?_
        refine c_ret2 Tryz.results32  (v := (S x25)) rfl (x := (.int .i64 0)) rfl ?_
        have e1_ : readS p la lo n = x25 := by rw [readS, if_neg (ne_true_of_eq_false h8_n_n), if_pos (Classical.not_not.1 h14), if_neg (ne_true_of_eq_false h19)]; rw [hx26]; rfl
        have e2_ : readE p la n = 0 := by rw [readE, if_neg (ne_true_of_eq_false h8_n_n), if_pos (Classical.not_not.1 h14)]
        exact ⟨by rw [e1_, e2_], hH12⟩
end Go.Q
namespace Go.Q
open Go.Proofs
set_option linter.unusedVariables false
set_option maxRecDepth 100000
attribute [local irreducible] wpList OK Code.wp
def DevAt (pb : Nat) (sg : List Hp) (db : Nat) (la : List Bs) (lo : List (Int × Bs)) : Prop := ∃ v hL mb es c, sg = hL ++ ([Hp.one mb (.map es c)] ++ [Hp.one db (.cells #[(.pointer (some ⟨pb, 0, none⟩)), v, (.map (some mb))] 107 (0, 0))]) ∧ Own 9 1 v la.length (la.map sV) hL ∧ MapV iV sV es c lo
theorem sectors_d {E w : World} {R sg : List Hp} {pb db : Nat} {p : Pw} {la : List Bs} {lo : List (Int × Bs)} (hH : Has E w [sg, [Hp.one pb (.cells #[(.bool p.off), (.bool p.armed), (.int .i64 p.left), (.int .i64 p.uses)] 101 (0, 0))], R]) (hd : DevAt pb sg db la lo) :
    Calls Tryz.prog 51 #[(.pointer (some ⟨db, 0, none⟩))] w fun e w' => e = .returned (.int .i64 ((la.length : Nat) : Int)) ∧ Has E w' [sg, [Hp.one pb (.cells #[(.bool p.off), (.bool p.armed), (.int .i64 p.left), (.int .i64 p.uses)] 101 (0, 0))], R] := by
  obtain ⟨v, hL, mb, es, c, rfl, ho, hm⟩ := hd
  exact (sectors_i hH.open3 ho hm ).mono fun e w' ⟨he, hH'⟩ => ⟨he, hH'.close3⟩
theorem don_d {E w : World} {R sg : List Hp} {pb db : Nat} {p : Pw} {la : List Bs} {lo : List (Int × Bs)} (hH : Has E w [sg, [Hp.one pb (.cells #[(.bool p.off), (.bool p.armed), (.int .i64 p.left), (.int .i64 p.uses)] 101 (0, 0))], R]) (hd : DevAt pb sg db la lo) :
    Calls Tryz.prog 72 #[(.pointer (some ⟨db, 0, none⟩))] w fun e w' => e = .returned (.bool (!p.off)) ∧ Has E w' [sg, [Hp.one pb (.cells #[(.bool p.off), (.bool p.armed), (.int .i64 p.left), (.int .i64 p.uses)] 101 (0, 0))], R] := by
  obtain ⟨v, hL, mb, es, c, rfl, ho, hm⟩ := hd
  exact (don_i hH.open3 ho hm ).mono fun e w' ⟨he, hH'⟩ => ⟨he, hH'.close3⟩
theorem write_d {E w : World} {R sg : List Hp} {pb db : Nat} {p : Pw} {la : List Bs} {lo : List (Int × Bs)} (hH : Has E w [sg, [Hp.one pb (.cells #[(.bool p.off), (.bool p.armed), (.int .i64 p.left), (.int .i64 p.uses)] 101 (0, 0))], R]) (hd : DevAt pb sg db la lo) (hp : PwOk p) (hla : la.length ≤ 4096) (n : Int) {vd : Value} {l : List Bs} (hdd : Sl R 1 vd l.length (l.map sV)) (hn : l.length ≤ 1000000) (hl : l.flatten.length ≤ 1000000000) :
    Calls Tryz.prog 52 #[(.pointer (some ⟨db, 0, none⟩)), (.int .i64 n), vd] w fun e w' => ∃ sg', e = .returned (.int .i64 (writeE p la.length n l.flatten)) ∧ DevAt pb sg' db la (writeS p la.length lo n l.flatten) ∧ Has E w' [sg', [Hp.one pb (.cells #[(.bool (useS p).off), (.bool (useS p).armed), (.int .i64 (useS p).left), (.int .i64 (useS p).uses)] 101 (0, 0))], R] := by
  obtain ⟨v, hL, mb, es, c, rfl, ho, hm⟩ := hd
  exact (write_i hH.open3 ho hm hp hla n hdd hn hl).mono fun e w' ⟨es', c', he, hm', hH'⟩ => ⟨_, he, ⟨v, hL, mb, es', c', rfl, ho, hm'⟩, hH'.close3⟩
theorem sync_d {E w : World} {R sg : List Hp} {pb db : Nat} {p : Pw} {la : List Bs} {lo : List (Int × Bs)} (hH : Has E w [sg, [Hp.one pb (.cells #[(.bool p.off), (.bool p.armed), (.int .i64 p.left), (.int .i64 p.uses)] 101 (0, 0))], R]) (hd : DevAt pb sg db la lo) (hp : PwOk p) (hla : la.length ≤ 4096) (hlo : LoOk lo la.length) :
    Calls Tryz.prog 27 #[(.pointer (some ⟨db, 0, none⟩))] w fun e w' => ∃ sg', e = .returned (.int .i64 (syncE p)) ∧ DevAt pb sg' db (syncA p la lo) (syncO p lo) ∧ Has E w' [sg', [Hp.one pb (.cells #[(.bool (useS p).off), (.bool (useS p).armed), (.int .i64 (useS p).left), (.int .i64 (useS p).uses)] 101 (0, 0))], R] := by
  obtain ⟨v, hL, mb, es, c, rfl, ho, hm⟩ := hd
  exact (sync_i hH.open3 ho hm hp hla hlo).mono fun e w' ⟨hL', es', c', he, ho', hm', hH'⟩ => ⟨_, he, ⟨v, hL', mb, es', c', rfl, ho', hm'⟩, hH'.close3⟩
theorem read_d {E w : World} {R sg : List Hp} {pb db : Nat} {p : Pw} {la : List Bs} {lo : List (Int × Bs)} (hH : Has E w [sg, [Hp.one pb (.cells #[(.bool p.off), (.bool p.armed), (.int .i64 p.left), (.int .i64 p.uses)] 101 (0, 0))], R]) (hd : DevAt pb sg db la lo) (n : Int) :
    Calls Tryz.prog 32 #[(.pointer (some ⟨db, 0, none⟩)), (.int .i64 n)] w fun e w' => e = .returned (.tuple #[S (readS p la lo n), .int .i64 (readE p la n)]) ∧ Has E w' [sg, [Hp.one pb (.cells #[(.bool p.off), (.bool p.armed), (.int .i64 p.left), (.int .i64 p.uses)] 101 (0, 0))], R] := by
  obtain ⟨v, hL, mb, es, c, rfl, ho, hm⟩ := hd
  exact (read_i hH.open3 ho hm n).mono fun e w' ⟨he, hH'⟩ => ⟨he, hH'.close3⟩
set_option maxHeartbeats 4000000 in
theorem new_nil {E w : World} {R : List Hp} (hH : Has E w [R]) {n : Nat} (hn : 1 ≤ n ∧ n ≤ 4096) :
    Calls Tryz.prog 14 #[(.pointer none), (.int .i64 (n : Int))] w fun e w' => ∃ db pb sg, e = .returned (.pointer (some ⟨db, 0, none⟩)) ∧ DevAt pb sg db (List.replicate n blankS) [] ∧ Has E w' [sg, [Hp.one pb (.cells #[(.bool false), (.bool false), (.int .i64 0), (.int .i64 0)] 101 (0, 0))], R] := by
  refine c_enter (args := [(.pointer none), (.int .i64 (n : Int))]) Tryz.func14 rfl Tryz.ntmps14 (by simp) ?_
  refine wp_seq_k fun K1 hK1 => ?_
  refine c_region ?_
  refine s_op (o_assign (v := (.pointer none)) rfl ?_)
  refine s_nil ?_
  refine t_norm (hK1 _ _ ?_)
  refine wp_seq_k fun K2 hK2 => ?_
  refine wp_seq_k fun K3 hK3 => ?_
  refine c_region ?_
  refine s_op (o_move (v := (.int .i64 (n : Int))) rfl ?_)
  refine s_op (o_lss (a := (n : Int)) (b := 1) rfl rfl ?_)
  refine s_op (o_move (v := (.bool (decide ((n : Int) < 1)))) rfl ?_)
  by_cases h4 : (n : Int) < 1
  · -- (n : Int) < 1
    exfalso; omega
  · -- not: (n : Int) < 1
    refine s_on 7 rfl (congrArg Value.bool (decide_eq_false h4)) (o_move (v := (.int .i64 (n : Int))) rfl ?_)
    refine s_on 7 rfl (congrArg Value.bool (decide_eq_false h4)) (o_gtr (a := (n : Int)) (b := 4096) rfl rfl ?_)
    refine s_op (o_pick_f (u := (.bool (decide (4096 < (n : Int))))) ((rfl : _ = _).trans (congrArg Value.bool (decide_eq_false h4))) rfl ?_)
    refine s_nil ?_
    refine t_norm (hK3 _ _ ?_)
    refine c_cond rfl (fun h5 => ?_) (fun h5 => ?_)
    · -- 4096 < (n : Int)
      exfalso; omega
    · -- not: 4096 < (n : Int)
      refine wp_skip ?_
      refine t_norm (hK2 _ _ ?_)
      refine wp_seq_k fun K6 hK6 => ?_
      refine wp_seq_k fun K7 hK7 => ?_
      refine c_region ?_
      refine s_op (o_move (v := (.pointer none)) rfl ?_)
      refine s_op (o_pnil (p := none) Tryz.underlying99 rfl rfl ?_)
      refine s_nil ?_
      refine t_norm (hK7 _ _ ?_)
      refine c_true rfl rfl ?_
      refine c_region ?_
      refine s_op (o_sight (v := (.agg #[(.bool false), (.bool false), (.int .i64 0), (.int .i64 0)])) (fun _ => by kernel_rfl) ?_)
      refine s_op (o_box (cs := #[(.bool false), (.bool false), (.int .i64 0), (.int .i64 0)]) rfl rfl hH fun b8 w9 hH10 => ?_)
      refine s_op (o_assign (v := (.pointer (some ⟨b8, 0, none⟩))) rfl ?_)
      refine s_nil ?_
      refine t_norm (hK6 _ _ ?_)
      refine wp_seq_k fun K11 hK11 => ?_
      refine c_region ?_
      refine s_op (o_move (v := (.pointer (some ⟨b8, 0, none⟩))) rfl ?_)
      refine s_op (o_callf (vs := #[]) ca54 rfl (args0) (blank_c hH10.all) ?_)
      rintro _ w14 ⟨rfl, hX12⟩
      refine ⟨_, rfl, ?_⟩
      have hH13 := hX12.of_all
      refine s_op (o_buildSlice (ps := #[(0, (S blankS))]) (cells := #[(S blankS)]) Tryz.underlying102 ti9 (by decide) (parts1 rfl) (by kernel_rfl) hH13 fun b15 w16 hH17 => ?_)
      refine s_op (o_move (v := (.int .i64 (n : Int))) rfl ?_)
      refine s_op (o_callf (vs := #[(.slice (some ⟨b15, 0, none⟩) 1 1), (.int .i64 (n : Int))]) ca53 rfl (args2 rfl rfl) (srepeat_c hH17.all (s := blankS) ((sl_lit (f := sV) (l := [blankS]) rfl rfl (by simp)).mono (seg_sub 0 rfl)) (n := n) (by omega)) ?_)
      rintro _ w23 ⟨v18, s19, rfl, ho20, hX21⟩
      refine ⟨_, rfl, ?_⟩
      have hH22 : Has E w23 [s19, [Hp.one b15 (.cells #[(S blankS)] 9 (0, 0))], [Hp.one b8 (.cells #[(.bool false), (.bool false), (.int .i64 0), (.int .i64 0)] 101 (0, 0))], R] := hX21.of_all1
      obtain ⟨p_, c_, rfl⟩ := (Own.sl ho20).form
      refine s_op (o_makeMap hH22 fun m24 w25 hH26 => ?_)
      refine s_op (o_sight (v := (.agg #[(.pointer (some ⟨b8, 0, none⟩)), (.slice p_ (List.replicate n blankS).length c_), (.map (some m24))])) (fun _ => by kernel_rfl) ?_)
      refine s_op (o_box (cs := #[(.pointer (some ⟨b8, 0, none⟩)), (.slice p_ (List.replicate n blankS).length c_), (.map (some m24))]) rfl rfl hH26 fun b27 w28 hH29 => ?_)
      refine s_op (o_assign (v := (.pointer (some ⟨b27, 0, none⟩))) rfl ?_)
      refine s_nil ?_
      refine t_norm (hK11 _ _ ?_)
      refine wp_ret ?_
      refine c_ret1 Tryz.results14  (v := (.pointer (some ⟨b27, 0, none⟩))) rfl ?_
      have hH30 : Has E w28 [s19, [Hp.one m24 (.map #[] 0)], [Hp.one b27 (.cells #[(.pointer (some ⟨b8, 0, none⟩)), (.slice p_ (List.replicate n blankS).length c_), (.map (some m24))] 107 (0, 0))], [Hp.one b8 (.cells #[(.bool false), (.bool false), (.int .i64 0), (.int .i64 0)] 101 (0, 0))], R] := (((((hH29.front 5 rfl).front 5 rfl).front 2 rfl).front 3 rfl).front 4 rfl).first 5 rfl
      exact ⟨_, _, _, rfl, ⟨_, _, _, _, _, rfl, ho20, MapV.nil⟩, hH30.close3⟩
end Go.Q
namespace Go.Q
structure Hd where
  seq : Int
  ep : Int
  cut : Int
  st : Int
  mrk : Int
deriving DecidableEq
def hdZ : Hd := ⟨0, 0, 0, 0, 0⟩
def hdR (h : Hd) : Bool := decide ((0 ≤ h.seq ∧ h.seq ≤ 4611686018427387903) ∧ (0 ≤ h.ep ∧ h.ep ≤ 2147483647) ∧ (0 ≤ h.cut ∧ h.cut ≤ 4611686018427387903) ∧ (0 ≤ h.st ∧ h.st ≤ 4611686018427387903) ∧ (0 ≤ h.mrk ∧ h.mrk ≤ 4611686018427387903))
def hdN (h : Hd) : Bs := beFrom h.seq 8 ++ (beFrom h.ep 8 ++ (beFrom h.cut 8 ++ (beFrom h.st 8 ++ beFrom h.mrk 8)))
theorem hdN_len (h : Hd) : (hdN h).length = 40 := by unfold hdN; simp [beFrom_length]
/-- the sector of a right head; of another there is none -/
def hdL (h : Hd) : Bs := if hdR h = true then sealS (hdN h) ++ List.replicate 20 0 else []
theorem hdL_len {h : Hd} (hr : hdR h = true) : (hdL h).length = 64 := by
  unfold hdL; rw [if_pos hr, List.length_append, List.length_replicate, sealS, List.length_append, hdN_len, laidS_len]
/-- as the program reads it: each number from what the one before leaves -/
def hdP (s : Bs) : Hd × Bool :=
  let t1 := takeS s 8; let t2 := takeS t1.2.1 8; let t3 := takeS t2.2.1 8; let t4 := takeS t3.2.1 8; let t5 := takeS t4.2.1 8
  let h : Hd := ⟨t1.1, t2.1, t3.1, t4.1, t5.1⟩
  if s.length = 64 ∧ hdL h = s then (h, true) else (hdZ, false)
theorem take8 {x : Int} {more : Bs} (h : 0 ≤ x ∧ x ≤ 4611686018427387903) : takeS (beFrom x 8 ++ more) 8 = (x, more, true) :=
  take_be (by decide) (by decide) (by omega) (fits_lit (b := 9223372036854775808) h.1 (by omega) (by decide) (by decide) (by omega))
theorem hd_tail {h : Hd} (hr : hdR h = true) : ∃ tail : Bs, hdL h = beFrom h.seq 8 ++ (beFrom h.ep 8 ++ (beFrom h.cut 8 ++ (beFrom h.st 8 ++ (beFrom h.mrk 8 ++ tail)))) := by
  refine ⟨laidS (crcS (hdN h)) ++ List.replicate 20 0, ?_⟩
  unfold hdL
  rw [if_pos hr, sealS]
  generalize laidS (crcS (hdN h)) = y
  unfold hdN
  simp only [List.append_assoc]
theorem hdP_laid {h : Hd} (hr : hdR h = true) : hdP (hdL h) = (h, true) := by
  obtain ⟨tail, ht⟩ := hd_tail hr
  have hb := of_decide_eq_true hr
  obtain ⟨b1, b2, b3, b4, b5⟩ := hb
  unfold hdP
  have t1 : takeS (hdL h) 8 = (h.seq, beFrom h.ep 8 ++ (beFrom h.cut 8 ++ (beFrom h.st 8 ++ (beFrom h.mrk 8 ++ tail))), true) := by rw [ht]; exact take8 b1
  simp only [t1, take8 (x := h.ep) ⟨b2.1, by omega⟩, take8 b3, take8 b4, take8 b5]
  rw [if_pos ⟨hdL_len hr, trivial⟩]
end Go.Q
namespace Go.Q
/-- a power that is on, is not armed, and was used a few times -/
structure Calm (p : Pw) (k : Nat) : Prop where
  off : p.off = false
  arm : p.armed = false
  u0 : 0 ≤ p.uses
  u1 : p.uses ≤ k
  l0 : -(k : Int) ≤ p.left
  l1 : p.left ≤ 0
theorem Calm.ok {p : Pw} {k : Nat} (h : Calm p k) (hk : k ≤ 1000000) : PwOk p := by
  obtain ⟨_, _, h1, h2, h3, h4⟩ := h
  exact ⟨h1, by omega, by omega, by omega⟩
theorem Calm.use {p : Pw} {k : Nat} (h : Calm p k) : Calm (useS p) (k + 1) := by
  obtain ⟨h1, h2, h3, h4, h5, h6⟩ := h
  unfold useS
  rw [if_neg (by rw [h1]; decide), h2]
  exact ⟨rfl, rfl, by show 0 ≤ p.uses + 1; omega, by show p.uses + 1 ≤ _; omega, by show _ ≤ p.left - 1; omega, by show p.left - 1 ≤ 0; omega⟩
theorem Calm.b {p : Pw} {k : Nat} (h : Calm p k) : useB p = true := by
  have := h.use.off
  unfold useB; rw [h.off, this]; rfl
theorem Calm.mono {p : Pw} {k m : Nat} (h : Calm p k) (hk : k ≤ m) : Calm p m := ⟨h.off, h.arm, h.u0, by have := h.u1; omega, by have := h.l0; omega, h.l1⟩
theorem Calm.back {p : Pw} {k : Nat} (h : Calm p k) : Calm (backS p) k := ⟨rfl, rfl, h.u0, h.u1, h.l0, h.l1⟩
theorem Calm.new : Calm (Pw.mk false false 0 0) 0 := ⟨rfl, rfl, by decide, by decide, by decide, by decide⟩
theorem settle_at {lo : List (Int × Bs)} (h0 : ∀ n, (getB lo n).isSome = true → 0 ≤ n) (j : Nat) : ∀ (keep : List Int) (la : List Bs), j < la.length → (settleS lo la keep)[j]? = if (j : Int) ∈ keep ∧ (getB lo (j : Int)).isSome = true then getB lo (j : Int) else la[j]?
  | [], la, _ => by simp [settleS]
  | n :: keep, la, hj => by
    show (settleS lo (match getB lo n with | some s => la.set n.toNat s | none => la) keep)[j]? = _
    cases hn : getB lo n with
    | none =>
      rw [settle_at h0 j keep la hj]
      by_cases e : (j : Int) = n
      · rw [e, hn]; simp
      · simp [List.mem_cons, e]
    | some s =>
      show (settleS lo (la.set n.toNat s) keep)[j]? = _
      rw [settle_at h0 j keep (la.set n.toNat s) (by simpa using hj)]
      have hp := h0 n (by rw [hn]; rfl)
      by_cases e : (j : Int) = n
      · subst e
        rw [hn]
        simp [hj]
      · have g : n.toNat ≠ j := by omega
        simp [List.mem_cons, e, List.getElem?_set, g]
theorem LoOk.nn {lo : List (Int × Bs)} {k : Nat} (h : LoOk lo k) : ∀ n, (getB lo n).isSome = true → 0 ≤ n := fun n g => (h.get g).1
theorem keysS_mem {lo : List (Int × Bs)} {n : Int} : n ∈ keysS lo ↔ (getB lo n).isSome = true := by
  unfold keysS; rw [(List.mergeSort_perm _ _).mem_iff, getB_mem]
/-- a text that may be a sector's -/
def okT (l : List Bs) (j : Nat) : Prop := j < l.length ∧ ((l[j]?).getD []).length ≤ 64
instance (l : List Bs) (j : Nat) : Decidable (okT l j) := inferInstanceAs (Decidable (_ ∧ _))
def secT (base l : List Bs) (j : Nat) : Bs := if okT l j then fillS ((l[j]?).getD []) else (base[j]?).getD []
theorem secT_no {base l : List Bs} {j : Nat} (h : ¬ okT l j) : secT base l j = (base[j]?).getD [] := by unfold secT; rw [if_neg h]
/-- what is loose where the first i texts were written -/
def WR (k : Nat) (l : List Bs) (i : Nat) (lo : List (Int × Bs)) : Prop := (∀ j : Nat, j < k → getB lo (j : Int) = if j < i ∧ okT l j then some (fillS ((l[j]?).getD [])) else none) ∧ LoOk lo k
theorem LoOk.nil (k : Nat) : LoOk [] k := fun p h => by simp at h
theorem LoOk.put {lo : List (Int × Bs)} {k : Nat} (h : LoOk lo k) {n : Int} {s : Bs} (hn : inS n k) (hs : s.length = 64) : LoOk (putB lo n s) k := by
  intro p hp
  have : ∀ l : List (Int × Bs), p ∈ putB l n s → p = (n, s) ∨ p ∈ l := by
    intro l
    induction l with
    | nil => intro h; exact .inl (List.mem_singleton.1 h)
    | cons q t ih =>
      obtain ⟨a, u⟩ := q
      intro h
      rw [putB] at h
      split at h
      · rcases List.mem_cons.1 h with e | e
        · exact .inl e
        · exact .inr (List.mem_cons_of_mem _ e)
      · rcases List.mem_cons.1 h with e | e
        · exact .inr (by rw [e]; exact List.mem_cons_self ..)
        · rcases ih e with e | e
          · exact .inl e
          · exact .inr (List.mem_cons_of_mem _ e)
  rcases this lo hp with rfl | g
  · exact ⟨hn, hs⟩
  · exact h p g
theorem LoOk.write {lo : List (Int × Bs)} {k : Nat} (h : LoOk lo k) (p : Pw) (n : Int) (s : Bs) : LoOk (writeS p k lo n s) k := by
  unfold writeS
  split
  · rename_i g; exact h.put g.2.2 (fill_len g.2.1)
  · exact h
theorem WR.start (k : Nat) (l : List Bs) : WR k l 0 [] := ⟨fun j _ => by simp [getB], LoOk.nil k⟩
theorem WR.no {k i : Nat} {l : List Bs} {lo : List (Int × Bs)} (h : WR k l i lo) (hx : ¬ okT l i) : WR k l (i + 1) lo := by
  refine ⟨fun j hj => ?_, h.2⟩
  rw [h.1 j hj]
  by_cases g : j = i
  · subst g; simp [hx]
  · by_cases c : j < i
    · simp [c, show j < i + 1 by omega]
    · simp [c, show ¬ j < i + 1 by omega]
theorem WR.at {k j : Nat} {l la : List Bs} {lo : List (Int × Bs)} (h : WR k l k lo) (hl : la.length = k) (hj : j < k) (keep : List Int) : (settleS lo la keep)[j]? = some (if (j : Int) ∈ keep then secT la l j else (la[j]?).getD []) := by
  rw [settle_at h.2.nn j keep la (by omega), h.1 j hj]
  have hla : la[j]? = some la[j] := List.getElem?_eq_getElem (by omega)
  by_cases c : okT l j
  · simp only [hj, c, and_self, if_true, Option.isSome_some, and_true]
    by_cases d : (j : Int) ∈ keep
    · rw [if_pos d, if_pos d]; unfold secT; rw [if_pos c]
    · rw [if_neg d, if_neg d, hla]; rfl
  · simp only [c, and_false, if_false, Option.isSome_none, Bool.false_eq_true]
    rw [hla, secT_no c]
    split <;> simp [hla]
theorem map_range_get {α : Type} (f : Nat → α) {k j : Nat} (hj : j < k) : ((List.range k).map f)[j]? = some (f j) := by
  rw [List.getElem?_map, List.getElem?_range hj]; rfl
theorem keys_nil : keysS ([] : List (Int × Bs)) = [] := by simp [keysS]
end Go.Q
namespace Go.Q
theorem Has.open2 {E w : World} {a b : List Hp} {ss : List (List Hp)} (H : Has E w ((a ++ b) :: ss)) : Has E w (a :: b :: ss) := by
  unfold Has at *; simpa [List.append_assoc] using H
theorem Has.close2 {E w : World} {a b : List Hp} {ss : List (List Hp)} (H : Has E w (a :: b :: ss)) : Has E w ((a ++ b) :: ss) := by
  unfold Has at *; simpa [List.append_assoc] using H
/-- no heaplet of these is empty -/
def Full (S : List Hp) : Prop := ∀ h ∈ S, ∃ b o, h b = some o
theorem Full.one (b : Nat) (o : Obj) : Full [Hp.one b o] := fun h hh => ⟨b, o, by rw [List.mem_singleton.1 hh]; exact Hp.one_at b o⟩
theorem Full.app {S T : List Hp} (h : Full S) (g : Full T) : Full (S ++ T) := fun x hx => (List.mem_append.1 hx).elim (h x) (g x)
theorem Full.nodup {E w : World} {S : List Hp} {ss : List (List Hp)} (hf : Full S) (H : Has E w (S :: ss)) : S.Nodup := by
  have h0 : Has0 E w (S ++ ss.flatten) := by simpa [Has] using H
  have h1 : S.Pairwise Hp.dis := h0.dj.sublist (List.sublist_append_left _ _)
  refine List.Pairwise.imp_of_mem (fun {a b} ha hb d e => ?_) h1
  subst e
  obtain ⟨x, o, hx⟩ := hf a ha
  rcases d x with g | g <;> rw [hx] at g <;> cases g
theorem Own.full {e sz n : Nat} {v : Value} {cs : List Value} {hs : List Hp} (h : Own e sz v n cs hs) : Full hs := by
  obtain ⟨_, ⟨_, _, h⟩ | ⟨b, cap, cur, _, h, _⟩⟩ := h
  · subst h; exact fun x hx => by cases hx
  · subst h; exact Full.one _ _
end Go.Q
namespace Go.Q
def useM (q : Pw) : Pw := if q.off = true then q else if q.armed = true ∧ q.left = 0 then ⟨true, q.armed, q.left, q.uses + 1⟩ else ⟨q.off, q.armed, q.left - 1, q.uses + 1⟩
def useMB (q : Pw) : Bool := !q.off && !(q.armed && decide (q.left = 0))
structure PR (k : Nat) (p q : Pw) : Prop where
  off : p.off = q.off
  arm : p.armed = q.armed
  uses : p.uses = q.uses
  left : p.off = false → p.armed = true → p.left = q.left
  u0 : 0 ≤ p.uses
  u1 : p.uses ≤ k
  l0 : -(k : Int) ≤ p.left
  l1 : p.left ≤ 9223372036854775807
  m0 : -(k : Int) ≤ q.left
  m1 : q.left ≤ 9223372036854775807
theorem PR.mono {k m : Nat} {p q : Pw} (h : PR k p q) (hk : k ≤ m) : PR m p q := by
  obtain ⟨h1, h2, h3, h4, h5, h6, h7, h8, h9, h10⟩ := h
  exact ⟨h1, h2, h3, h4, h5, by omega, by omega, h8, by omega, h10⟩
theorem PR.ok {k : Nat} {p q : Pw} (h : PR k p q) (hk : k ≤ 1000000) : PwOk p ∧ PwOk q := by
  obtain ⟨h1, h2, h3, h4, h5, h6, h7, h8, h9, h10⟩ := h
  exact ⟨⟨h5, by omega, by omega, h8⟩, ⟨by omega, by omega, by omega, h10⟩⟩
theorem PR.new : PR 0 (Pw.mk false false 0 0) (Pw.mk false false 0 0) := ⟨rfl, rfl, rfl, fun _ _ => rfl, by decide, by decide, by decide, by decide, by decide, by decide⟩
theorem PR.b {k : Nat} {p q : Pw} (h : PR k p q) : useB p = useMB q := by
  obtain ⟨h1, h2, h3, h4, _⟩ := h
  obtain ⟨o, a, l, u⟩ := p
  obtain ⟨o', a', l', u'⟩ := q
  simp only at h1 h2 h3 h4
  subst h1 h2 h3
  unfold useB useMB useS
  cases o with
  | true => rfl
  | false =>
    cases a with
    | false => rfl
    | true => rw [h4 rfl rfl]; rfl
theorem PR.use {k : Nat} {p q : Pw} (h : PR k p q) : PR (k + 1) (useS p) (useM q) := by
  obtain ⟨h1, h2, h3, h4, h5, h6, h7, h8, h9, h10⟩ := h
  obtain ⟨o, a, l, u⟩ := p
  obtain ⟨o', a', l', u'⟩ := q
  simp only at h1 h2 h3 h4 h5 h6 h7 h8 h9 h10
  subst h1 h2 h3
  unfold useS useM
  cases o with
  | true => exact ⟨rfl, rfl, rfl, (fun g => by cases g), h5, (by show u ≤ _; omega), (by show _ ≤ l; omega), h8, (by show _ ≤ l'; omega), h10⟩
  | false =>
    cases a with
    | false => exact ⟨rfl, rfl, rfl, (fun _ g => by cases g), (by show 0 ≤ u + 1; omega), (by show u + 1 ≤ _; omega), (by show _ ≤ l - 1; omega), (by show l - 1 ≤ _; omega), (by show _ ≤ l' - 1; omega), (by show l' - 1 ≤ _; omega)⟩
    | true =>
      have e := h4 rfl rfl
      subst e
      by_cases g : l = 0
      · subst g; exact ⟨rfl, rfl, rfl, (fun g => by simp at g), (by show 0 ≤ u + 1; omega), (by show u + 1 ≤ _; omega), (by simp; omega), (by simp), (by simp; omega), (by simp)⟩
      · simp only [g, Bool.false_eq_true, if_false, and_false, decide_false, Bool.and_false]
        exact ⟨rfl, rfl, rfl, (fun _ _ => rfl), (by show 0 ≤ u + 1; omega), (by show u + 1 ≤ _; omega), (by show _ ≤ l - 1; omega), (by show l - 1 ≤ _; omega), (by show _ ≤ l - 1; omega), (by show l - 1 ≤ _; omega)⟩
theorem PR.back {k : Nat} {p q : Pw} (h : PR k p q) : PR k (backS p) ⟨false, false, q.left, q.uses⟩ := by
  obtain ⟨h1, h2, h3, h4, h5, h6, h7, h8, h9, h10⟩ := h
  exact ⟨rfl, rfl, h3, (fun _ g => by cases g), h5, h6, h7, h8, h9, h10⟩
def nowAt (la : List Bs) (lo : List (Int × Bs)) (j : Nat) : Bs := (getB lo (j : Int)).getD ((la[j]?).getD [])
def nowS (la : List Bs) (lo : List (Int × Bs)) : List Bs := (List.range la.length).map (nowAt la lo)
theorem now_len (la : List Bs) (lo : List (Int × Bs)) : (nowS la lo).length = la.length := by simp [nowS]
theorem now_get {la : List Bs} {lo : List (Int × Bs)} {j : Nat} (hj : j < la.length) : (nowS la lo)[j]? = some (nowAt la lo j) := map_range_get _ hj
structure Sim (la : List Bs) (lo : List (Int × Bs)) (nw : List Bs) (ls : List Int) : Prop where
  ok : LoOk lo la.length
  nd : (lo.map (·.1)).Nodup
  nw : nw = nowS la lo
  ls : ls = keysS lo
theorem Sim.len {la : List Bs} {lo : List (Int × Bs)} {nw : List Bs} {ls : List Int} (h : Sim la lo nw ls) : nw.length = la.length := by rw [h.nw, now_len]
theorem now_put {la : List Bs} {lo : List (Int × Bs)} {n : Int} (t : Bs) (hn : inS n la.length) : (nowS la lo).set n.toNat t = nowS la (putB lo n t) := by
  refine List.ext_getElem? fun j => ?_
  rw [List.getElem?_set, now_len]
  obtain ⟨h0, h1⟩ := hn
  by_cases e : n.toNat = j
  · subst e
    rw [if_pos rfl, if_pos (by omega), now_get (by omega)]
    unfold nowAt; rw [getB_put, if_pos (by omega)]; rfl
  · rw [if_neg e]
    rcases Nat.lt_or_ge j la.length with hj | hj
    · rw [now_get hj, now_get hj]; unfold nowAt; rw [getB_put, if_neg (by omega)]
    · rw [List.getElem?_eq_none (by rw [now_len]; exact hj), List.getElem?_eq_none (by rw [now_len]; exact hj)]
theorem now_nil (la : List Bs) : nowS la [] = la := by
  refine List.ext_getElem? fun j => ?_
  rcases Nat.lt_or_ge j la.length with hj | hj
  · rw [now_get hj]; unfold nowAt; simp [getB, hj]
  · rw [List.getElem?_eq_none (by rw [now_len]; exact hj), List.getElem?_eq_none hj]
theorem now_sync {la : List Bs} {lo : List (Int × Bs)} (h : LoOk lo la.length) : settleS lo la (keysS lo) = nowS la lo := by
  refine List.ext_getElem? fun j => ?_
  rcases Nat.lt_or_ge j la.length with hj | hj
  · rw [settle_at h.nn j _ _ hj, now_get hj]
    simp only [keysS_mem]
    unfold nowAt
    cases e : getB lo (j : Int) with
    | none => simp [hj]
    | some s => simp
  · rw [List.getElem?_eq_none (by rw [settle_len]; exact hj), List.getElem?_eq_none (by rw [now_len]; exact hj)]
section
variable {la : List Bs} {lo : List (Int × Bs)} {nw : List Bs} {ls : List Int} (h : Sim la lo nw ls) {p q : Pw} {k : Nat} {n : Int} {s : Bs}
include h
end
/-- what a crash leaves, up to a place -/
def crA (la nw : List Bs) (keep : List Int) (k j : Nat) : Bs := if j < k ∧ (j : Int) ∈ keep then (nw[j]?).getD [] else (la[j]?).getD []
def crN (la nw : List Bs) (keep : List Int) (k j : Nat) : Bs := if j < k then crA la nw keep k j else (nw[j]?).getD []
def crAS (la nw : List Bs) (keep : List Int) (k : Nat) : List Bs := (List.range la.length).map (crA la nw keep k)
def crNS (la nw : List Bs) (keep : List Int) (k : Nat) : List Bs := (List.range la.length).map (crN la nw keep k)
theorem cr_len (la nw : List Bs) (keep : List Int) (k : Nat) : (crAS la nw keep k).length = la.length ∧ (crNS la nw keep k).length = la.length := by simp [crAS, crNS]
theorem Sim.crash {la : List Bs} {lo : List (Int × Bs)} {nw : List Bs} {ls : List Int} (h : Sim la lo nw ls) (keep : List Int) :
    crAS la nw keep la.length = settleS lo la keep ∧ crNS la nw keep la.length = settleS lo la keep ∧ Sim (settleS lo la keep) [] (settleS lo la keep) [] := by
  have e : crAS la nw keep la.length = settleS lo la keep := by
    refine List.ext_getElem? fun j => ?_
    rcases Nat.lt_or_ge j la.length with hj | hj
    · rw [show (crAS la nw keep la.length)[j]? = some (crA la nw keep la.length j) from map_range_get _ hj, settle_at h.ok.nn j _ _ hj]
      unfold crA
      rw [h.nw, now_get hj]
      unfold nowAt
      by_cases g : (j : Int) ∈ keep
      · cases e : getB lo (j : Int) with
        | none => simp [hj]
        | some s => simp [hj, g]
      · simp [g, hj]
    · rw [List.getElem?_eq_none (by rw [(cr_len la nw keep la.length).1]; exact hj), List.getElem?_eq_none (by rw [settle_len]; exact hj)]
  refine ⟨e, ?_, ⟨LoOk.nil _, List.nodup_nil, (now_nil _).symm, keys_nil.symm⟩⟩
  rw [← e]
  unfold crNS crAS
  refine List.map_congr_left fun j hj => ?_
  unfold crN; rw [if_pos (List.mem_range.1 hj)]
theorem Sim.new (k : Nat) : Sim (List.replicate k blankS) [] (List.replicate k blankS) [] := ⟨LoOk.nil _, List.nodup_nil, (now_nil _).symm, keys_nil.symm⟩
end Go.Q
namespace Go.Q
/-- sectors of 64 bytes -/
def Full64 (la : List Bs) : Prop := ∀ s ∈ la, s.length = 64
end Go.Q
namespace Go.Q
/-- saved it can be -/
def svOk (h : Hd) : Prop := (0 ≤ h.seq ∧ h.seq < 4611686018427387903) ∧ hdR h = true
instance (h : Hd) : Decidable (svOk h) := inferInstanceAs (Decidable (_ ∧ _))
def atOk (k : Nat) (x : Int) : Prop := 0 ≤ x ∧ x < (k : Int) - 1
instance (k : Nat) (x : Int) : Decidable (atOk k x) := inferInstanceAs (Decidable (_ ∧ _))
def hdUp (h : Hd) : Hd := ⟨h.seq + 1, h.ep, h.cut, h.st, h.mrk⟩
def svN (x : Int) (h : Hd) : Int := x + (h.seq + 1) % 2
def svTry (k : Nat) (x : Int) (h : Hd) : Prop := svOk h ∧ atOk k x
instance (k : Nat) (x : Int) (h : Hd) : Decidable (svTry k x h) := inferInstanceAs (Decidable (_ ∧ _))
def svDone (p : Pw) (k : Nat) (x : Int) (h : Hd) : Prop := svTry k x h ∧ useB p = true ∧ useB (useS p) = true
instance (p : Pw) (k : Nat) (x : Int) (h : Hd) : Decidable (svDone p k x h) := inferInstanceAs (Decidable (_ ∧ _))
theorem svOk.up {h : Hd} (g : svOk h) : hdR (hdUp h) = true := by
  obtain ⟨⟨h1, h2⟩, h3⟩ := g
  have h3 := of_decide_eq_true h3
  exact decide_eq_true ⟨⟨by show 0 ≤ h.seq + 1; omega, by show h.seq + 1 ≤ _; omega⟩, h3.2⟩
theorem svN_in {k : Nat} {x : Int} {h : Hd} (g : svTry k x h) : inS (svN x h) k := by
  obtain ⟨⟨⟨h1, h2⟩, _⟩, h3, h4⟩ := g
  unfold svN
  have := Int.emod_nonneg (h.seq + 1) (show (2 : Int) ≠ 0 by decide)
  have := Int.emod_lt_of_pos (h.seq + 1) (show (0 : Int) < 2 by decide)
  exact ⟨by omega, by omega⟩
theorem fill_full {s : Bs} (h : s.length = 64) : fillS s = s := by
  unfold fillS
  rw [h, List.drop_of_length_le (by rw [blank_len]; exact Nat.le_refl _), List.append_nil]
theorem settle_none (la : List Bs) (keep : List Int) : settleS [] la keep = la := by
  unfold settleS
  induction keep generalizing la with
  | nil => rfl
  | cons n t ih => rw [List.foldl_cons]; exact ih la
section cases
variable {p : Pw} {la : List Bs} {x : Int} {h : Hd}
end cases
/-- a device's sector -/
def sec (la : List Bs) (x : Int) : Bs := (la[x.toNat]?).getD []
theorem read_sec {p : Pw} {la : List Bs} {n : Int} (hp : p.off = false) (hn : inS n la.length) : readS p la [] n = sec la n ∧ readE p la n = 0 := by
  unfold readS readE sec
  rw [hp]
  simp [hn, getB]
theorem sec_len {la : List Bs} (h : Full64 la) {n : Int} (hn : inS n la.length) : (sec la n).length = 64 := by
  unfold sec
  have : n.toNat < la.length := by have := hn.1; have := hn.2; omega
  rw [List.getElem?_eq_getElem this]
  exact h _ (List.getElem_mem this)
/-- two sectors keep a head: the one it was laid in, and no later one in the other -/
def Kp (a b : Bs) (h : Hd) : Prop := hdR h = true ∧ if h.seq % 2 = 0 then a = hdL h ∧ ((hdP b).2 = true → (hdP b).1.seq % 2 = 1 → (hdP b).1.seq < h.seq) else b = hdL h ∧ ((hdP a).2 = true → (hdP a).1.seq % 2 = 0 → (hdP a).1.seq < h.seq)
theorem Kp.even {a b : Bs} {h h' : Hd} (k : Kp a b h) (hs : h'.seq = h.seq) (hr : hdR (hdUp h') = true) (he : (h'.seq + 1) % 2 = 0) : Kp (hdL (hdUp h')) b (hdUp h') := by
  refine ⟨hr, ?_⟩
  rw [if_pos (show (hdUp h').seq % 2 = 0 from he)]
  refine ⟨rfl, fun g1 g2 => ?_⟩
  have k2 := k.2
  rw [if_neg (by omega)] at k2
  rw [k2.1, hdP_laid k.1]
  show h.seq < h'.seq + 1
  omega
theorem Kp.odd {a b : Bs} {h h' : Hd} (k : Kp a b h) (hs : h'.seq = h.seq) (hr : hdR (hdUp h') = true) (he : (h'.seq + 1) % 2 = 1) : Kp a (hdL (hdUp h')) (hdUp h') := by
  refine ⟨hr, ?_⟩
  rw [if_neg (by show ¬ (h'.seq + 1) % 2 = 0; omega)]
  refine ⟨rfl, fun g1 g2 => ?_⟩
  have k2 := k.2
  rw [if_pos (by omega)] at k2
  rw [k2.1, hdP_laid k.1]
  show h.seq < h'.seq + 1
  omega
/-- the sectors of a device -/
def KpA (la : List Bs) (x : Int) (h : Hd) : Prop := Kp (sec la x) (sec la (x + 1)) h
theorem sec_set {la : List Bs} {n m : Int} {s : Bs} (hn : inS n la.length) (hm : 0 ≤ m) : sec (la.set n.toNat s) m = if m = n then s else sec la m := by
  unfold sec
  rw [List.getElem?_set]
  have := hn.1
  have := hn.2
  by_cases e : m = n
  · rw [if_pos (by rw [e]), if_pos (by omega), if_pos e]; rfl
  · rw [if_neg (by omega), if_neg e]
theorem KpA.set {la : List Bs} {x : Int} {h h' : Hd} (k : KpA la x h) (g : svTry la.length x h') (hs : h'.seq = h.seq) : KpA (la.set (svN x h').toNat (hdL (hdUp h'))) x (hdUp h') := by
  have hn := svN_in g
  have hx := g.2.1
  have hu := g.1.up
  unfold KpA
  rw [sec_set hn hx, sec_set hn (by omega)]
  unfold svN
  by_cases he : (h'.seq + 1) % 2 = 0
  · rw [he, if_pos (by omega), if_neg (by omega)]; exact k.even hs hu he
  · have he : (h'.seq + 1) % 2 = 1 := by omega
    rw [he, if_neg (by omega), if_pos rfl]; exact k.odd hs hu he
section ends
variable {p : Pw} {la : List Bs} {x : Int} {h : Hd}
end ends
/-- a power that has been used a few times -/
def Few (p : Pw) (k : Nat) : Prop := 0 ≤ p.uses ∧ p.uses ≤ k ∧ -(k : Int) ≤ p.left ∧ p.left ≤ 9223372036854775807
theorem Few.ok {p : Pw} {k : Nat} (h : Few p k) (hk : k ≤ 1000000) : PwOk p := ⟨h.1, by have := h.2.1; omega, by have := h.2.2.1; omega, h.2.2.2⟩
theorem Few.use {p : Pw} {k : Nat} (h : Few p k) : Few (useS p) (k + 1) := by
  obtain ⟨h1, h2, h3, h4⟩ := h
  unfold useS
  split
  · exact ⟨h1, by omega, by omega, h4⟩
  · exact ⟨by show 0 ≤ p.uses + 1; omega, by show p.uses + 1 ≤ _; omega, by show _ ≤ p.left - 1; omega, by show p.left - 1 ≤ _; omega⟩
theorem Few.mono {p : Pw} {k m : Nat} (h : Few p k) (hk : k ≤ m) : Few p m := ⟨h.1, by have := h.2.1; omega, by have := h.2.2.1; omega, h.2.2.2⟩
theorem Few.back {p : Pw} {k : Nat} (h : Few p k) : Few (backS p) k := h
theorem Few.arm {p : Pw} {k : Nat} (h : Few p k) {n : Int} (hn : n ≤ 9223372036854775807) : Few (armS p n) k := ⟨h.1, h.2.1, by show _ ≤ max n 0; omega, by show max n 0 ≤ _; omega⟩
theorem Few.new : Few (Pw.mk false false 0 0) 0 := ⟨by decide, by decide, by decide, by decide⟩
theorem useB_on {p : Pw} (h : useB p = true) : (useS p).off = false := by
  unfold useB at h
  rw [Bool.and_eq_true] at h
  simpa using h.2
end Go.Q
namespace Go.Q
structure Dv where
  p : Pw
  la : List Bs
  lo : List (Int × Bs)
abbrev Grp := List (Int × Bs)
def Dv.wr (d : Dv) (n : Int) (s : Bs) : Dv := ⟨useS d.p, d.la, writeS d.p d.la.length d.lo n s⟩
def Dv.wrE (d : Dv) (n : Int) (s : Bs) : Int := writeE d.p d.la.length n s
def Dv.sy (d : Dv) : Dv := ⟨useS d.p, syncA d.p d.la d.lo, syncO d.p d.lo⟩
def Dv.syE (d : Dv) : Int := syncE d.p
def wrs : Dv → Grp → Int × Dv
  | d, [] => (0, d)
  | d, (n, s) :: t => if d.wrE n s = 0 then wrs (d.wr n s) t else (d.wrE n s, d.wr n s)
def wrsy (d : Dv) (l : Grp) : Int × Dv := if (wrs d l).1 = 0 then ((wrs d l).2.syE, (wrs d l).2.sy) else wrs d l
def runs : Dv → List Grp → Int × Dv
  | d, [] => (0, d)
  | d, g :: t => if (wrsy d g).1 = 0 then runs (wrsy d g).2 t else wrsy d g
/-- a group that has its places -/
def GOk (g : Grp) (k : Nat) : Prop := ∀ q ∈ g, inS q.1 k ∧ q.2.length ≤ 64
def appl (g : Grp) (la : List Bs) : List Bs := g.foldl (fun la q => la.set q.1.toNat (fillS q.2)) la
theorem appl_len (g : Grp) : ∀ la : List Bs, (appl g la).length = la.length := by
  induction g with
  | nil => intro la; rfl
  | cons q t ih => intro la; show (appl t _).length = _; rw [ih, List.length_set]
theorem wr_on {d : Dv} {n : Int} {s : Bs} (h : inS n d.la.length) (hs : s.length ≤ 64) (hb : useB d.p = true) : d.wrE n s = 0 ∧ d.wr n s = ⟨useS d.p, d.la, putB d.lo n (fillS s)⟩ := by
  unfold Dv.wrE Dv.wr writeE writeS
  rw [if_pos hb, if_pos ⟨hs, h⟩, if_pos ⟨hb, hs, h⟩]
  exact ⟨rfl, rfl⟩
theorem wr_off {d : Dv} {n : Int} {s : Bs} (hb : useB d.p = false) : d.wrE n s = 6 ∧ d.wr n s = ⟨useS d.p, d.la, d.lo⟩ := by
  unfold Dv.wrE Dv.wr writeE writeS
  rw [if_neg (by rw [hb]; decide), if_neg (by rw [hb]; exact fun g => by cases g.1)]
  exact ⟨rfl, rfl⟩
theorem putB_mem {lo : List (Int × Bs)} {n : Int} {x : Bs} : ∀ {q : Int × Bs}, q ∈ putB lo n x → q = (n, x) ∨ q ∈ lo := by
  induction lo with
  | nil => intro q hq; exact .inl (List.mem_singleton.1 hq)
  | cons a t ih =>
    intro q hq
    obtain ⟨k, y⟩ := a
    unfold putB at hq
    split at hq
    · rcases List.mem_cons.1 hq with rfl | hq
      · rename_i e; exact .inl (by first | rfl | rw [e])
      · exact .inr (List.mem_cons_of_mem _ hq)
    · rcases List.mem_cons.1 hq with rfl | hq
      · exact .inr List.mem_cons_self
      · exact (ih hq).imp id (List.mem_cons_of_mem _)
theorem getB_some {lo : List (Int × Bs)} {n : Int} {x : Bs} (h : getB lo n = some x) : (n, x) ∈ lo := by
  induction lo with
  | nil => cases h
  | cons a t ih =>
    obtain ⟨k, y⟩ := a
    unfold getB at h
    split at h
    · rename_i e; cases h; rw [e]; exact List.mem_cons_self
    · exact List.mem_cons_of_mem _ (ih h)
/-- where something of a group is loose -/
def LoIn (lo : List (Int × Bs)) (g : Grp) : Prop := ∀ q ∈ lo, ∃ s, (q.1, s) ∈ g ∧ q.2 = fillS s
theorem LoIn.nil (g : Grp) : LoIn [] g := fun q hq => by cases hq
theorem LoIn.put {lo : List (Int × Bs)} {g : Grp} (h : LoIn lo g) {n : Int} {s : Bs} (hm : (n, s) ∈ g) : LoIn (putB lo n (fillS s)) g := by
  intro q hq
  rcases putB_mem hq with rfl | hq
  · exact ⟨s, hm, rfl⟩
  · exact h q hq
/-- one by one: what is now on the device, or that it went off -/
theorem wrs_spec (g0 : Grp) : ∀ (g : Grp) (d : Dv), GOk g d.la.length → (∀ q ∈ g, q ∈ g0) → LoOk d.lo d.la.length → LoIn d.lo g0 →
    (wrs d g).2.la = d.la ∧ LoOk (wrs d g).2.lo d.la.length ∧ LoIn (wrs d g).2.lo g0 ∧
    ((wrs d g).1 = 0 ∧ nowS d.la (wrs d g).2.lo = appl g (nowS d.la d.lo) ∨ (wrs d g).1 = 6)
  | [], d, _, _, hl, hi => ⟨rfl, hl, hi, .inl ⟨rfl, rfl⟩⟩
  | (n, s) :: t, d, hg, h0, hl, hi => by
    have hq := hg (n, s) List.mem_cons_self
    have hm := h0 (n, s) List.mem_cons_self
    cases hb : useB d.p with
    | false =>
      obtain ⟨e1, e2⟩ := wr_off (n := n) (s := s) hb
      have e : wrs d ((n, s) :: t) = (6, ⟨useS d.p, d.la, d.lo⟩) := by
        show (if d.wrE n s = 0 then _ else _) = _
        rw [e1, if_neg (by decide), e2]
      rw [e]
      exact ⟨rfl, hl, hi, .inr rfl⟩
    | true =>
      obtain ⟨e1, e2⟩ := wr_on (d := d) hq.1 hq.2 hb
      have e : wrs d ((n, s) :: t) = wrs ⟨useS d.p, d.la, putB d.lo n (fillS s)⟩ t := by
        show (if d.wrE n s = 0 then _ else _) = _
        rw [e1, if_pos rfl, e2]
      rw [e]
      have ih := wrs_spec g0 t ⟨useS d.p, d.la, putB d.lo n (fillS s)⟩ (fun q h => hg q (List.mem_cons_of_mem _ h)) (fun q h => h0 q (List.mem_cons_of_mem _ h)) (hl.put hq.1 (fill_len hq.2)) (hi.put hm)
      refine ⟨ih.1, ih.2.1, ih.2.2.1, ?_⟩
      rcases ih.2.2.2 with ⟨h1, h2⟩ | h1
      · refine .inl ⟨h1, ?_⟩
        rw [h2, ← now_put (fillS s) hq.1]
        rfl
      · exact .inr h1
theorem wrsy_spec {g : Grp} {p : Pw} {la : List Bs} (hg : GOk g la.length) (ho : p.off = false) :
    ((wrsy ⟨p, la, []⟩ g).1 = 0 ∧ (wrsy ⟨p, la, []⟩ g).2.la = appl g la ∧ (wrsy ⟨p, la, []⟩ g).2.lo = [] ∧ (wrsy ⟨p, la, []⟩ g).2.p.off = false) ∨
    ((wrsy ⟨p, la, []⟩ g).1 = 6 ∧ (wrsy ⟨p, la, []⟩ g).2.la = la ∧ LoOk (wrsy ⟨p, la, []⟩ g).2.lo la.length ∧ LoIn (wrsy ⟨p, la, []⟩ g).2.lo g) := by
  obtain ⟨h1, h2, h3, h4⟩ := wrs_spec g g ⟨p, la, []⟩ hg (fun q h => h) (LoOk.nil _) (LoIn.nil _)
  unfold wrsy
  rcases h4 with ⟨h4, h5⟩ | h4
  · rw [if_pos h4]
    unfold Dv.syE Dv.sy syncE syncA syncO
    cases hb : useB (wrs ⟨p, la, []⟩ g).2.p with
    | true =>
      refine .inl ⟨rfl, ?_, rfl, useB_on hb⟩
      show settleS _ _ _ = _
      rw [h1]
      show settleS (wrs ⟨p, la, []⟩ g).2.lo la (keysS (wrs ⟨p, la, []⟩ g).2.lo) = _
      rw [now_sync h2]
      show nowS la _ = _
      rw [show nowS la (wrs ⟨p, la, []⟩ g).2.lo = appl g (nowS la []) from h5, now_nil]
    | false => exact .inr ⟨rfl, h1, h2, h3⟩
  · rw [if_neg (by rw [h4]; decide)]
    exact .inr ⟨h4, h1, h2, h3⟩
/-- sectors, of which some are as a group has them -/
def Mix (la : List Bs) (g : Grp) (lb : List Bs) : Prop := lb.length = la.length ∧ ∀ j : Nat, sec lb j = sec la j ∨ ∃ s, ((j : Int), s) ∈ g ∧ sec lb j = fillS s
theorem Mix.refl (la : List Bs) (g : Grp) : Mix la g la := ⟨rfl, fun _ => .inl rfl⟩
theorem sec_set_nat {la : List Bs} {n j : Nat} {s : Bs} : sec (la.set n s) (j : Int) = if j = n ∧ n < la.length then s else sec la (j : Int) := by
  unfold sec
  rw [List.getElem?_set]
  by_cases e : j = n
  · subst e
    by_cases h : j < la.length
    · rw [if_pos (by simp), if_pos (by simpa using h), if_pos ⟨rfl, h⟩]; rfl
    · rw [if_pos (by simp), if_neg (by simpa using h), if_neg (fun g => h g.2)]
      rw [List.getElem?_eq_none (by simpa using h)]
  · rw [if_neg (by simpa using fun h => e h.symm), if_neg (fun g => e g.1)]
theorem crash_mix {lo : List (Int × Bs)} {g : Grp} (hi : LoIn lo g) (hn : ∀ q ∈ lo, 0 ≤ q.1) : ∀ (keep : List Int) (la : List Bs), Mix la g (settleS lo la keep)
  | [], la => Mix.refl _ _
  | m :: keep, la => by
    have e : settleS lo la (m :: keep) = settleS lo (match getB lo m with | some s => la.set m.toNat s | none => la) keep := rfl
    rw [e]
    cases h : getB lo m with
    | none => exact crash_mix hi hn keep la
    | some x =>
      have ih := crash_mix hi hn keep (la.set m.toNat x)
      have hm := getB_some h
      obtain ⟨s, hs1, hs2⟩ := hi _ hm
      have h0 : 0 ≤ m := hn _ hm
      refine ⟨by rw [ih.1, List.length_set], fun j => ?_⟩
      rcases ih.2 j with q | q
      · rw [q, sec_set_nat]
        split
        · rename_i g1
          exact .inr ⟨s, by rw [show (j : Int) = m by omega]; exact hs1, hs2⟩
        · exact .inl rfl
      · exact .inr q
/-- groups one behind the other, and what a crash leaves -/
def appls (gs : List Grp) (la : List Bs) : List Bs := gs.foldl (fun la g => appl g la) la
theorem appls_len (gs : List Grp) : ∀ la : List Bs, (appls gs la).length = la.length := by
  induction gs with
  | nil => intro la; rfl
  | cons g t ih => intro la; show (appls t _).length = _; rw [ih, appl_len]
theorem runs_spec : ∀ (gs : List Grp) (p : Pw) (la : List Bs), (∀ g ∈ gs, GOk g la.length) → p.off = false →
    ((runs ⟨p, la, []⟩ gs).1 = 0 ∧ (runs ⟨p, la, []⟩ gs).2.la = appls gs la ∧ (runs ⟨p, la, []⟩ gs).2.lo = [] ∧ (runs ⟨p, la, []⟩ gs).2.p.off = false) ∨
    ((runs ⟨p, la, []⟩ gs).1 = 6 ∧ LoOk (runs ⟨p, la, []⟩ gs).2.lo la.length ∧ ∃ pre g post, gs = pre ++ g :: post ∧ (runs ⟨p, la, []⟩ gs).2.la = appls pre la ∧ LoIn (runs ⟨p, la, []⟩ gs).2.lo g)
  | [], p, la, _, ho => .inl ⟨rfl, rfl, rfl, ho⟩
  | g :: t, p, la, hg, ho => by
    have e : runs ⟨p, la, []⟩ (g :: t) = if (wrsy ⟨p, la, []⟩ g).1 = 0 then runs (wrsy ⟨p, la, []⟩ g).2 t else wrsy ⟨p, la, []⟩ g := rfl
    rcases wrsy_spec (hg g List.mem_cons_self) ho with ⟨h1, h2, h3, h4⟩ | ⟨h1, h2, h3, h4⟩
    · rw [e, if_pos h1]
      have ed : ∀ D : Dv, D.la = appl g la → D.lo = [] → D = ⟨D.p, appl g la, []⟩ := by rintro ⟨a, b, c⟩ rfl rfl; rfl
      rw [ed _ h2 h3]
      rcases runs_spec t (wrsy ⟨p, la, []⟩ g).2.p (appl g la) (fun x hx => by rw [appl_len]; exact hg x (List.mem_cons_of_mem _ hx)) h4 with q | ⟨q1, q2, pre, g1, post, q3, q4, q5⟩
      · exact .inl q
      · refine .inr ⟨q1, by rw [appl_len] at q2; exact q2, g :: pre, g1, post, by rw [q3]; rfl, q4, q5⟩
    · rw [e, if_neg (by rw [h1]; decide)]
      exact .inr ⟨h1, h3, [], g, t, rfl, h2, h4⟩
end Go.Q
namespace Go.Q
def sgt (s : Bs) (i : Nat) : Bs := (s.take ((i + 1) * 64)).drop (i * 64)
def setT (x : Int) (s : Bs) : Grp := [(x, sgt s 0), (x + 1, sgt s 1), (x + 2, sgt s 2), (x + 3, sgt s 3)]
def mrkG (l : List Int) : Grp := [(0, putS 1 l)]
def plc (k : Int) : Int := 5 + k * 4
def pgB (la : List Bs) (x : Int) : Bs := sec la x ++ (sec la (x + 1) ++ (sec la (x + 2) ++ sec la (x + 3)))
def stG (no : Int) (s : Bs) : List Grp := [setT 1 s, mrkG [no + 1], setT (plc no) s, mrkG []]
def mendG (no : Int) (s : Bs) : List Grp := [setT (plc no) s, mrkG []]
def noteS (no : Int) : Bs := fillS (putS 1 [no + 1])
theorem sgt_len {s : Bs} (h : s.length = 256) {i : Nat} (hi : i < 4) : (sgt s i).length = 64 := by unfold sgt; rw [List.length_drop, List.length_take]; omega
theorem sgt_all {s : Bs} (h : s.length = 256) : sgt s 0 ++ (sgt s 1 ++ (sgt s 2 ++ sgt s 3)) = s := by
  have e : ∀ a b : Nat, a ≤ b → b ≤ 256 → (s.take b).drop a ++ s.drop b = s.drop a := fun a b h1 h2 => by
    have t := congrArg (List.drop a) (List.take_append_drop b s)
    rw [List.drop_append_of_le_length (by rw [List.length_take]; omega)] at t
    exact t
  have e0 : sgt s 3 = s.drop 192 := by unfold sgt; rw [List.take_of_length_le (by omega)]
  rw [e0]
  show (s.take 64).drop 0 ++ ((s.take 128).drop 64 ++ ((s.take 192).drop 128 ++ s.drop 192)) = s
  rw [e 128 192 (by decide) (by decide), e 64 128 (by decide) (by decide), e 0 64 (by decide) (by decide), List.drop_zero]
theorem put_nil : putS 1 ([] : List Int) = [] := by rw [putS_yes (by decide) (by decide) (by simp)]; rfl
theorem put_len {no : Int} (h : 0 ≤ no ∧ no < 64) : (putS 1 [no + 1]).length = 1 := by rw [put1 (by omega), beFrom_length]
theorem gok_set {x : Int} {s : Bs} {k : Nat} (hs : s.length = 256) (h0 : 0 ≤ x) (hk : x + 4 ≤ k) : GOk (setT x s) k := by
  intro q hq
  simp only [setT, List.mem_cons, List.not_mem_nil, or_false] at hq
  rcases hq with rfl | rfl | rfl | rfl
  · exact ⟨⟨h0, by show x < _; omega⟩, Nat.le_of_eq (sgt_len hs (by decide))⟩
  · exact ⟨⟨by show 0 ≤ x + 1; omega, by show x + 1 < _; omega⟩, Nat.le_of_eq (sgt_len hs (by decide))⟩
  · exact ⟨⟨by show 0 ≤ x + 2; omega, by show x + 2 < _; omega⟩, Nat.le_of_eq (sgt_len hs (by decide))⟩
  · exact ⟨⟨by show 0 ≤ x + 3; omega, by show x + 3 < _; omega⟩, Nat.le_of_eq (sgt_len hs (by decide))⟩
theorem gok_nil {k : Nat} (hk : 1 ≤ k) : GOk (mrkG []) k := by
  intro q hq
  rw [List.mem_singleton.1 hq]
  exact ⟨⟨by show (0 : Int) ≤ 0; decide, by show (0 : Int) < _; omega⟩, by show (putS 1 []).length ≤ 64; rw [put_nil]; decide⟩
theorem gok_mrk {no : Int} (h : 0 ≤ no ∧ no < 64) {k : Nat} (hk : 1 ≤ k) : GOk (mrkG [no + 1]) k := by
  intro q hq
  rw [List.mem_singleton.1 hq]
  exact ⟨⟨by show (0 : Int) ≤ 0; decide, by show (0 : Int) < _; omega⟩, by show (putS 1 [no + 1]).length ≤ 64; rw [put_len h]; decide⟩
/-- four sectors set -/
theorem sec_appl {la : List Bs} {x : Int} {s : Bs} (hs : s.length = 256) (h0 : 0 ≤ x) (hk : x + 4 ≤ la.length) {m : Int} (hm : 0 ≤ m) :
    sec (appl (setT x s) la) m = if m = x then sgt s 0 else if m = x + 1 then sgt s 1 else if m = x + 2 then sgt s 2 else if m = x + 3 then sgt s 3 else sec la m := by
  have f : ∀ i, i < 4 → fillS (sgt s i) = sgt s i := fun i hi => fill_full (sgt_len hs hi)
  have e : appl (setT x s) la = (((la.set x.toNat (sgt s 0)).set (x + 1).toNat (sgt s 1)).set (x + 2).toNat (sgt s 2)).set (x + 3).toNat (sgt s 3) := by
    show (((la.set x.toNat (fillS (sgt s 0))).set (x + 1).toNat (fillS (sgt s 1))).set (x + 2).toNat (fillS (sgt s 2))).set (x + 3).toNat (fillS (sgt s 3)) = _
    rw [f 0 (by decide), f 1 (by decide), f 2 (by decide), f 3 (by decide)]
  rw [e, sec_set ⟨by omega, by simp only [List.length_set]; omega⟩ hm, sec_set ⟨by omega, by simp only [List.length_set]; omega⟩ hm, sec_set ⟨by omega, by simp only [List.length_set]; omega⟩ hm, sec_set ⟨by omega, by omega⟩ hm]
  by_cases h1 : m = x
  · rw [if_neg (by omega), if_neg (by omega), if_neg (by omega), if_pos h1, if_pos h1]
  · by_cases h2 : m = x + 1
    · rw [if_neg (by omega), if_neg (by omega), if_pos h2, if_neg h1, if_pos h2]
    · by_cases h3 : m = x + 2
      · rw [if_neg (by omega), if_pos h3, if_neg h1, if_neg h2, if_pos h3]
      · by_cases h4 : m = x + 3
        · rw [if_pos h4, if_neg h1, if_neg h2, if_neg h3, if_pos h4]
        · rw [if_neg h4, if_neg h3, if_neg h2, if_neg h1, if_neg h1, if_neg h2, if_neg h3, if_neg h4]
theorem sec_out {la : List Bs} {x : Int} {s : Bs} (hs : s.length = 256) (h0 : 0 ≤ x) (hk : x + 4 ≤ la.length) {m : Int} (hm : 0 ≤ m) (ho : m < x ∨ x + 4 ≤ m) : sec (appl (setT x s) la) m = sec la m := by
  rw [sec_appl hs h0 hk hm, if_neg (by omega), if_neg (by omega), if_neg (by omega), if_neg (by omega)]
theorem pg_set {la : List Bs} {x : Int} {s : Bs} (hs : s.length = 256) (h0 : 0 ≤ x) (hk : x + 4 ≤ la.length) : pgB (appl (setT x s) la) x = s := by
  unfold pgB
  rw [sec_appl hs h0 hk h0, if_pos rfl, sec_appl hs h0 hk (by omega), if_neg (by omega), if_pos rfl, sec_appl hs h0 hk (by omega), if_neg (by omega), if_neg (by omega), if_pos rfl, sec_appl hs h0 hk (by omega), if_neg (by omega), if_neg (by omega), if_neg (by omega), if_pos rfl]
  exact sgt_all hs
theorem pg_out {la : List Bs} {x y : Int} {s : Bs} (hs : s.length = 256) (h0 : 0 ≤ x) (hk : x + 4 ≤ la.length) (hy : 0 ≤ y) (ho : y + 4 ≤ x ∨ x + 4 ≤ y) : pgB (appl (setT x s) la) y = pgB la y := by
  unfold pgB
  rw [sec_out hs h0 hk hy (by omega), sec_out hs h0 hk (by omega) (by omega), sec_out hs h0 hk (by omega) (by omega), sec_out hs h0 hk (by omega) (by omega)]
theorem pg_same {la lb : List Bs} {y : Int} (h : ∀ j : Int, y ≤ j → j < y + 4 → sec lb j = sec la j) : pgB lb y = pgB la y := by
  unfold pgB
  rw [h y (by omega) (by omega), h (y + 1) (by omega) (by omega), h (y + 2) (by omega) (by omega), h (y + 3) (by omega) (by omega)]
/-- the note set -/
theorem sec_mrk {la : List Bs} {l : List Int} (hk : 1 ≤ la.length) {m : Int} (hm : 0 ≤ m) : sec (appl (mrkG l) la) m = if m = 0 then fillS (putS 1 l) else sec la m := by
  show sec (la.set (0 : Int).toNat _) m = _
  exact sec_set ⟨by decide, by omega⟩ hm
theorem pg_mrk {la : List Bs} {l : List Int} (hk : 1 ≤ la.length) {y : Int} (hy : 1 ≤ y) : pgB (appl (mrkG l) la) y = pgB la y := pg_same fun j h1 _ => by rw [sec_mrk hk (by omega), if_neg (by omega)]
/-- what a mix leaves as it was -/
theorem mix_out {la lb : List Bs} {g : Grp} (h : Mix la g lb) {m : Int} (hm : 0 ≤ m) (ho : ∀ q ∈ g, q.1 ≠ m) : sec lb m = sec la m := by
  have e : ((m.toNat : Nat) : Int) = m := by omega
  rcases h.2 m.toNat with q | ⟨s, q1, _⟩
  · rw [e] at q; exact q
  · rw [e] at q1; exact absurd rfl (ho _ q1)
theorem mix_set {la lb : List Bs} {x y : Int} {s : Bs} (h : Mix la (setT x s) lb) (hy : 0 ≤ y) (ho : y + 4 ≤ x ∨ x + 4 ≤ y) : pgB lb y = pgB la y := pg_same fun j h1 h2 => mix_out h (by omega) fun q hq => by
  simp only [setT, List.mem_cons, List.not_mem_nil, or_false] at hq
  rcases hq with rfl | rfl | rfl | rfl <;> (show _ ≠ j; omega)
theorem mix_set0 {la lb : List Bs} {x : Int} {s : Bs} (h : Mix la (setT x s) lb) (h1 : 1 ≤ x) : sec lb 0 = sec la 0 := mix_out h (by decide) fun q hq => by
  simp only [setT, List.mem_cons, List.not_mem_nil, or_false] at hq
  rcases hq with rfl | rfl | rfl | rfl <;> (show _ ≠ (0 : Int); omega)
theorem mix_mrk {la lb : List Bs} {l : List Int} (h : Mix la (mrkG l) lb) {y : Int} (hy : 1 ≤ y) : pgB lb y = pgB la y := pg_same fun j h1 h2 => mix_out h (by omega) fun q hq => by rw [List.mem_singleton.1 hq]; show (0 : Int) ≠ j; omega
theorem mix_mrk0 {la lb : List Bs} {l : List Int} (h : Mix la (mrkG l) lb) : sec lb 0 = sec la 0 ∨ sec lb 0 = fillS (putS 1 l) := by
  rcases h.2 0 with q | ⟨s, q1, q2⟩
  · exact .inl q
  · refine .inr ?_
    have e := List.mem_singleton.1 q1
    rw [← (Prod.mk.inj e).2]; exact q2
/-- pages as they lie: the note is blank -/
structure Tw (la : List Bs) (n : Nat) (B : Nat → Bs) : Prop where
  len : 5 + 4 * n ≤ la.length
  note : sec la 0 = blankS
  pg : ∀ k, k < n → pgB la (plc k) = B k
def updB (B : Nat → Bs) (no : Nat) (s : Bs) (k : Nat) : Bs := if k = no then s else B k
/-- a Store under way, or a mending: nothing of it is there, or all, or the note tells of the copy -/
def Pend (la : List Bs) (n : Nat) (B : Nat → Bs) (no : Nat) (s : Bs) : Prop :=
  5 + 4 * n ≤ la.length ∧ ((sec la 0 = blankS ∧ ((∀ k, k < n → pgB la (plc k) = B k) ∨ (∀ k, k < n → pgB la (plc k) = updB B no s k))) ∨ (sec la 0 = noteS no ∧ pgB la 1 = s ∧ ∀ k, k < n → k ≠ no → pgB la (plc k) = B k))
section store
variable {la : List Bs} {n : Nat} {B : Nat → Bs} {no : Nat} {s : Bs}
theorem st_ok (h : Tw la n B) (hs : s.length = 256) (hn : no < n) : Tw (appls (stG no s) la) n (updB B no s) := by
  have hl := h.len
  have l1 : (appl (setT 1 s) la).length = la.length := appl_len _ _
  have l2 : (appl (mrkG [(no : Int) + 1]) (appl (setT 1 s) la)).length = la.length := by rw [appl_len, l1]
  have l3 : (appl (setT (plc no) s) (appl (mrkG [(no : Int) + 1]) (appl (setT 1 s) la))).length = la.length := by rw [appl_len, l2]
  have e : appls (stG no s) la = appl (mrkG []) (appl (setT (plc no) s) (appl (mrkG [(no : Int) + 1]) (appl (setT 1 s) la))) := rfl
  rw [e]
  refine ⟨by rw [appl_len, l3]; exact hl, ?_, fun k hk => ?_⟩
  · rw [sec_mrk (by omega) (by decide), if_pos rfl, put_nil]; rfl
  · rw [pg_mrk (by omega) (by unfold plc; omega)]
    unfold updB
    by_cases g : k = no
    · subst g; rw [if_pos rfl]; exact pg_set hs (by unfold plc; omega) (by rw [l2]; unfold plc; omega)
    · rw [if_neg g, pg_out hs (by unfold plc; omega) (by rw [l2]; unfold plc; omega) (by unfold plc; omega) (by unfold plc; omega), pg_mrk (by omega) (by unfold plc; omega), pg_out hs (by decide) (by omega) (by unfold plc; omega) (by unfold plc; omega)]
      exact h.pg k hk
theorem mend_okT (hl : 5 + 4 * n ≤ la.length) (hb : ∀ k, k < n → k ≠ no → pgB la (plc k) = B k) (hs : s.length = 256) (hn : no < n) : Tw (appls (mendG no s) la) n (updB B no s) := by
  have l1 : (appl (setT (plc no) s) la).length = la.length := appl_len _ _
  have e : appls (mendG no s) la = appl (mrkG []) (appl (setT (plc no) s) la) := rfl
  rw [e]
  refine ⟨by rw [appl_len, l1]; exact hl, ?_, fun k hk => ?_⟩
  · rw [sec_mrk (by omega) (by decide), if_pos rfl, put_nil]; rfl
  · rw [pg_mrk (by omega) (by unfold plc; omega)]
    unfold updB
    by_cases g : k = no
    · subst g; rw [if_pos rfl]; exact pg_set hs (by unfold plc; omega) (by unfold plc; omega)
    · rw [if_neg g, pg_out hs (by unfold plc; omega) (by unfold plc; omega) (by unfold plc; omega) (by unfold plc; omega)]
      exact hb k hk g
theorem mend_mix {lb : List Bs} {pre post : List Grp} {g : Grp} (hl : 5 + 4 * n ≤ la.length) (h0 : sec la 0 = noteS no) (hc : pgB la 1 = s) (hb : ∀ k, k < n → k ≠ no → pgB la (plc k) = B k) (hs : s.length = 256) (hn : no < n)
    (hg : mendG no s = pre ++ g :: post) (hm : Mix (appls pre la) g lb) : Pend lb n B no s := by
  have ll : 5 + 4 * n ≤ lb.length := by rw [hm.1, appls_len]; exact hl
  unfold mendG at hg
  cases pre with
  | nil =>
    obtain ⟨rfl, rfl⟩ := List.cons.inj hg
    refine ⟨ll, .inr ⟨?_, ?_, fun k hk g => ?_⟩⟩
    · rw [mix_set0 hm (by unfold plc; omega)]; exact h0
    · rw [mix_set hm (by decide) (by unfold plc; omega)]; exact hc
    · rw [mix_set hm (by unfold plc; omega) (by unfold plc; omega)]; exact hb k hk g
  | cons g1 pre =>
    obtain ⟨rfl, hg1⟩ := List.cons.inj hg
    cases pre with
    | nil =>
      obtain ⟨rfl, rfl⟩ := List.cons.inj hg1
      have hm : Mix (appl (setT (plc no) s) la) (mrkG []) lb := hm
      have l1 : (appl (setT (plc no) s) la).length = la.length := appl_len _ _
      have hp : ∀ k, k < n → pgB lb (plc k) = updB B no s k := fun k hk => by
        rw [mix_mrk hm (by unfold plc; omega)]
        unfold updB
        by_cases g : k = no
        · subst g; rw [if_pos rfl]; exact pg_set hs (by unfold plc; omega) (by unfold plc; omega)
        · rw [if_neg g, pg_out hs (by unfold plc; omega) (by unfold plc; omega) (by unfold plc; omega) (by unfold plc; omega)]; exact hb k hk g
      refine ⟨ll, ?_⟩
      rcases mix_mrk0 hm with q | q
      · refine .inr ⟨?_, ?_, fun k hk g => ?_⟩
        · rw [q, sec_out hs (by unfold plc; omega) (by unfold plc; omega) (by decide) (by unfold plc; omega)]; exact h0
        · rw [mix_mrk hm (by decide), pg_out hs (by unfold plc; omega) (by unfold plc; omega) (by decide) (by unfold plc; omega)]; exact hc
        · rw [hp k hk]; unfold updB; rw [if_neg g]
      · exact .inl ⟨by rw [q, put_nil]; rfl, .inr hp⟩
    | cons g2 pre => 
      obtain ⟨_, hg2⟩ := List.cons.inj hg1
      cases pre <;> cases hg2
theorem st_mix {lb : List Bs} {pre post : List Grp} {g : Grp} (h : Tw la n B) (hs : s.length = 256) (hn : no < n) (hg : stG no s = pre ++ g :: post) (hm : Mix (appls pre la) g lb) : Pend lb n B no s := by
  have hl := h.len
  have ll : 5 + 4 * n ≤ lb.length := by rw [hm.1, appls_len]; exact hl
  have l1 : (appl (setT 1 s) la).length = la.length := appl_len _ _
  have hb1 : ∀ k, k < n → pgB (appl (setT 1 s) la) (plc k) = B k := fun k hk => by rw [pg_out hs (by decide) (by omega) (by unfold plc; omega) (by unfold plc; omega)]; exact h.pg k hk
  have hn1 : sec (appl (setT 1 s) la) 0 = blankS := by rw [sec_out hs (by decide) (by omega) (by decide) (by omega)]; exact h.note
  have hc1 : pgB (appl (setT 1 s) la) 1 = s := pg_set hs (by decide) (by omega)
  unfold stG at hg
  cases pre with
  | nil =>
    obtain ⟨rfl, rfl⟩ := List.cons.inj hg
    refine ⟨ll, .inl ⟨?_, .inl fun k hk => ?_⟩⟩
    · rw [mix_set0 hm (by decide)]; exact h.note
    · rw [mix_set hm (by unfold plc; omega) (by unfold plc; omega)]; exact h.pg k hk
  | cons g1 pre =>
    obtain ⟨rfl, hg1⟩ := List.cons.inj hg
    cases pre with
    | nil =>
      obtain ⟨rfl, rfl⟩ := List.cons.inj hg1
      have hm : Mix (appl (setT 1 s) la) (mrkG [(no : Int) + 1]) lb := hm
      refine ⟨ll, ?_⟩
      rcases mix_mrk0 hm with q | q
      · exact .inl ⟨by rw [q]; exact hn1, .inl fun k hk => by rw [mix_mrk hm (by unfold plc; omega)]; exact hb1 k hk⟩
      · exact .inr ⟨q, by rw [mix_mrk hm (by decide)]; exact hc1, fun k hk _ => by rw [mix_mrk hm (by unfold plc; omega)]; exact hb1 k hk⟩
    | cons g2 pre =>
      obtain ⟨rfl, hg2⟩ := List.cons.inj hg1
      refine mend_mix (la := appl (mrkG [(no : Int) + 1]) (appl (setT 1 s) la)) (by rw [appl_len, l1]; exact hl) ?_ ?_ (fun k hk _ => ?_) hs hn hg2 hm
      · rw [sec_mrk (by omega) (by decide), if_pos rfl]; rfl
      · rw [pg_mrk (by omega) (by decide)]; exact hc1
      · rw [pg_mrk (by omega) (by unfold plc; omega)]; exact hb1 k hk
end store
end Go.Q
namespace Go.Q
theorem wrsy_zero {d : Dv} {g : Grp} (h : (wrsy d g).1 = 0) : (wrsy d g).2.lo = [] := by
  unfold wrsy at h ⊢
  split
  · rename_i g0
    rw [if_pos g0] at h
    unfold Dv.syE syncE at h
    show syncO _ _ = []
    unfold syncO
    split at h
    · rename_i hb; rw [if_pos hb]
    · cases h
  · rename_i g0; rw [if_neg g0] at h; exact absurd h g0
theorem runs_zero : ∀ {gs : List Grp} {d : Dv}, d.lo = [] → (runs d gs).1 = 0 → (runs d gs).2.lo = []
  | [], _, h, _ => h
  | g :: t, d, _, h => by
    have e : runs d (g :: t) = if (wrsy d g).1 = 0 then runs (wrsy d g).2 t else wrsy d g := rfl
    rw [e] at h ⊢
    split at h
    · rename_i h0; rw [if_pos h0]; exact runs_zero (wrsy_zero h0) h
    · rename_i h0; exact absurd h h0
theorem few_wrs : ∀ (g : Grp) (d : Dv) {k : Nat}, Few d.p k → Few (wrs d g).2.p (k + g.length)
  | [], _, _, h => h
  | (n, s) :: t, d, k, h => by
    have e : wrs d ((n, s) :: t) = if d.wrE n s = 0 then wrs (d.wr n s) t else (d.wrE n s, d.wr n s) := rfl
    have h1 : Few (d.wr n s).p (k + 1) := h.use
    rw [e]
    split
    · exact (few_wrs t _ h1).mono (by rw [List.length_cons]; omega)
    · exact h1.mono (by rw [List.length_cons]; omega)
theorem few_wrsy {g : Grp} {d : Dv} {k : Nat} (h : Few d.p k) : Few (wrsy d g).2.p (k + g.length + 1) := by
  unfold wrsy
  split
  · exact (few_wrs g d h).use
  · exact (few_wrs g d h).mono (by omega)
def glen (gs : List Grp) : Nat := (gs.map fun g => g.length + 1).sum
theorem few_runs : ∀ (gs : List Grp) (d : Dv) {k : Nat}, Few d.p k → Few (runs d gs).2.p (k + glen gs)
  | [], _, _, h => h
  | g :: t, d, k, h => by
    have e : runs d (g :: t) = if (wrsy d g).1 = 0 then runs (wrsy d g).2 t else wrsy d g := rfl
    have e2 : glen (g :: t) = (g.length + 1) + glen t := by unfold glen; rw [List.map_cons, List.sum_cons]
    rw [e]
    split
    · exact (few_runs t _ (few_wrsy h)).mono (by omega)
    · exact (few_wrsy h).mono (by omega)
theorem wrs_la : ∀ (g : Grp) (d : Dv), (wrs d g).2.la = d.la
  | [], _ => rfl
  | (n, s) :: t, d => by
    have e : wrs d ((n, s) :: t) = if d.wrE n s = 0 then wrs (d.wr n s) t else (d.wrE n s, d.wr n s) := rfl
    rw [e]
    split
    · exact wrs_la t _
    · rfl
theorem wrsy_len {g : Grp} {d : Dv} : (wrsy d g).2.la.length = d.la.length := by
  unfold wrsy
  split
  · show (syncA _ _ _).length = _
    unfold syncA
    split
    · rw [settle_len, wrs_la]
    · rw [wrs_la]
  · rw [wrs_la]
theorem runs_len : ∀ (gs : List Grp) (d : Dv), (runs d gs).2.la.length = d.la.length
  | [], _ => rfl
  | g :: t, d => by
    have e : runs d (g :: t) = if (wrsy d g).1 = 0 then runs (wrsy d g).2 t else wrsy d g := rfl
    rw [e]
    split
    · rw [runs_len t, wrsy_len]
    · exact wrsy_len
theorem lo_wrs : ∀ (g : Grp) (d : Dv), LoOk d.lo d.la.length → LoOk (wrs d g).2.lo d.la.length
  | [], _, h => h
  | (n, s) :: t, d, h => by
    have e : wrs d ((n, s) :: t) = if d.wrE n s = 0 then wrs (d.wr n s) t else (d.wrE n s, d.wr n s) := rfl
    have h1 : LoOk (d.wr n s).lo (d.wr n s).la.length := h.write d.p n s
    rw [e]
    split
    · exact lo_wrs t _ h1
    · exact h1
/-- the steps of a group, as the program goes through them -/
theorem wrsy_nil {d : Dv} : wrsy d [] = (d.syE, d.sy) := rfl
theorem wrsy_stop {d : Dv} {n : Int} {s : Bs} {t : Grp} (h : d.wrE n s ≠ 0) : wrsy d ((n, s) :: t) = (d.wrE n s, d.wr n s) := by
  unfold wrsy
  have e : wrs d ((n, s) :: t) = (d.wrE n s, d.wr n s) := if_neg h
  rw [e, if_neg h]
theorem wrsy_go {d : Dv} {n : Int} {s : Bs} {t : Grp} (h : d.wrE n s = 0) : wrsy d ((n, s) :: t) = wrsy (d.wr n s) t := by
  unfold wrsy
  have e : wrs d ((n, s) :: t) = wrs (d.wr n s) t := if_pos h
  rw [e]
theorem runs_stop {d : Dv} {g : Grp} {t : List Grp} (h : (wrsy d g).1 ≠ 0) : runs d (g :: t) = wrsy d g := if_neg h
theorem runs_go {d : Dv} {g : Grp} {t : List Grp} (h : (wrsy d g).1 = 0) : runs d (g :: t) = runs (wrsy d g).2 t := if_pos h
def zer (n : Nat) : Bs := List.replicate n 0
/-- the note, read -/
def notedS (s : Bs) (n : Int) : Int × Int :=
  if s = zer 64 then (-1, 0) else if n < ((s[0]?).getD 0).toNat ∨ ((s[0]?).getD 0).toNat = 0 ∨ s.drop 1 ≠ zer 63 then (0, 9) else ((((s[0]?).getD 0).toNat : Int) - 1, 0)
/-- the page of bytes at a place -/
def pgOf (b : Bs) (k : Int) : (Int × Int × List Cel) × Int :=
  if b = zer 256 then ((k, 0, []), 0) else if (readP b).1 = true ∧ (readP b).2.1 = k then ((readP b).2, 0) else ((0, 0, []), 9)
/-- the mending of a device that keeps nothing loose -/
def mendR (d : Dv) (n : Int) : Int × Dv :=
  if d.p.off = true then (6, d) else if (notedS (sec d.la 0) n).2 ≠ 0 then (9, d) else if (notedS (sec d.la 0) n).1 < 0 then (0, d)
  else if (readP (pgB d.la 1)).1 = true ∧ (readP (pgB d.la 1)).2.1 = (notedS (sec d.la 0) n).1 then runs d (mendG (notedS (sec d.la 0) n).1 (pgB d.la 1)) else (9, d)
abbrev Pg := Int × Int × Value × List Cel
def pgC (a : Pg) : List Value := [iV a.1, iV a.2.1, a.2.2.1]
theorem pgC_len (a : Pg) : (pgC a).length = 3 := rfl
def PgIn (R : List Hp) (a : Pg) : Prop := Sl R 2 a.2.2.1 a.2.2.2.length (a.2.2.2.flatMap ceC)
theorem PgIn.mono {R R' : List Hp} {a : Pg} (h : PgIn R a) (hs : R ⊆ R') : PgIn R' a := Sl.mono h hs
def lpg (a : Pg) : Bs := laidP a.1 a.2.1 a.2.2.2
/-- one page stored, and several -/
def st1 (d : Dv) (n : Int) (a : Pg) : Int × Dv := if lpg a = [] ∨ n ≤ a.1 then (1, d) else runs d (stG a.1 (lpg a))
def stL : Dv → Int → List Pg → Int × Dv
  | d, _, [] => (0, d)
  | d, n, a :: t => if (st1 d n a).1 = 0 then stL (st1 d n a).2 n t else st1 d n a
theorem stL_go {d d0 : Dv} {n : Int} {l : List Pg} {i : Nat} {a : Pg} (hx : l[i]? = some a) (h : stL d0 n l = stL d n (l.drop i)) (he : (st1 d n a).1 = 0) : stL d0 n l = stL (st1 d n a).2 n (l.drop (i + 1)) := by
  rw [h, drop_of hx]; exact if_pos he
theorem stL_stop {d d0 : Dv} {n : Int} {l : List Pg} {i : Nat} {a : Pg} (hx : l[i]? = some a) (h : stL d0 n l = stL d n (l.drop i)) (he : (st1 d n a).1 ≠ 0) : stL d0 n l = st1 d n a := by
  rw [h, drop_of hx]; exact if_neg he
theorem st1_zero {d : Dv} {n : Int} {a : Pg} (h : d.lo = []) (he : (st1 d n a).1 = 0) : (st1 d n a).2.lo = [] := by
  unfold st1 at he ⊢
  split at he
  · cases he
  · rename_i g; rw [if_neg g]; exact runs_zero h he
theorem few_st1 {d : Dv} {n : Int} {a : Pg} {k : Nat} (h : Few d.p k) : Few (st1 d n a).2.p (k + 14) := by
  unfold st1
  split
  · exact h.mono (by omega)
  · exact few_runs _ _ h
theorem st1_len {d : Dv} {n : Int} {a : Pg} : (st1 d n a).2.la.length = d.la.length := by
  unfold st1
  split
  · rfl
  · exact runs_len _ _
theorem Dv.eta0 {d : Dv} (h : d.lo = []) : d = ⟨d.p, d.la, []⟩ := by obtain ⟨a, b, c⟩ := d; cases h; rfl
theorem runs_last {d : Dv} {g : Grp} : runs d [g] = wrsy d g := by
  have e : runs d [g] = if (wrsy d g).1 = 0 then (0, (wrsy d g).2) else wrsy d g := rfl
  rw [e]
  split
  · rename_i h; rw [← h]
  · rfl
theorem rd_sec {d : Dv} {n : Int} (hlo : d.lo = []) (hon : d.p.off = false) (hn : inS n d.la.length) : readS d.p d.la d.lo n = sec d.la n ∧ readE d.p d.la n = 0 := by
  rw [hlo]; exact read_sec hon hn
theorem pgB_len {la : List Bs} (h : Full64 la) {x : Int} (h0 : 0 ≤ x) (hk : x + 4 ≤ la.length) : (pgB la x).length = 256 := by
  unfold pgB
  simp only [List.length_append]
  rw [sec_len h ⟨h0, by omega⟩, sec_len h ⟨by omega, by omega⟩, sec_len h ⟨by omega, by omega⟩, sec_len h ⟨by omega, by omega⟩]
theorem pg_blank {b : Bs} {k : Int} (h : b = zer b.length) (hl : b.length = 256) : pgOf b k = ((k, 0, []), 0) := if_pos (by rw [← hl]; exact h)
theorem pg_read {b : Bs} {k : Int} (h : b ≠ zer b.length) (hl : b.length = 256) (h1 : (readP b).1 = true) (h2 : (readP b).2.1 = k) : pgOf b k = ((readP b).2, 0) := by
  unfold pgOf; rw [if_neg (by rw [← hl]; exact h), if_pos ⟨h1, h2⟩]
theorem pg_bad {b : Bs} {k : Int} (h : b ≠ zer b.length) (hl : b.length = 256) (h1 : ¬ ((readP b).1 = true ∧ (readP b).2.1 = k)) : pgOf b k = ((0, 0, []), 9) := by
  unfold pgOf; rw [if_neg (by rw [← hl]; exact h), if_neg h1]
/-- Format, on a device of nothing -/
theorem fm_b {d : Dv} {a b : Int} (h : d.p = ⟨false, false, a, b⟩) : useB d.p = true ∧ useS d.p = ⟨false, false, a - 1, b + 1⟩ := by
  rw [h]
  exact ⟨rfl, rfl⟩
theorem fm_p {d : Dv} {a b : Int} {i : Nat} {n : Int} {s : Bs} (h : d.p = ⟨false, false, a - i, b + i⟩) : (d.wr n s).p = ⟨false, false, a - (i + 1 : Nat), b + (i + 1 : Nat)⟩ := by
  show useS d.p = _
  rw [(fm_b h).2]
  congr 1 <;> omega
theorem fm_e {d : Dv} {a b : Int} {i m : Nat} (h : d.p = ⟨false, false, a, b⟩) (hl : d.la = List.replicate m blankS) (hi : i < m) : d.wrE (i : Int) [] = 0 :=
  (wr_on ⟨by omega, by rw [hl, List.length_replicate]; omega⟩ (by decide) (fm_b h).1).1
theorem fm_now {d : Dv} {a b : Int} {i m : Nat} (h : d.p = ⟨false, false, a, b⟩) (hl : d.la = List.replicate m blankS) (hw : nowS d.la d.lo = List.replicate m blankS) (hi : i < m) : nowS (d.wr (i : Int) []).la (d.wr (i : Int) []).lo = List.replicate m blankS := by
  have hin : inS (i : Int) d.la.length := ⟨by omega, by rw [hl, List.length_replicate]; omega⟩
  rw [(wr_on hin (s := []) (by decide) (fm_b h).1).2]
  show nowS d.la (putB d.lo (i : Int) (fillS [])) = _
  rw [← now_put _ hin, hw]
  refine List.ext_getElem? fun j => ?_
  rw [List.getElem?_set]
  by_cases g : (i : Int).toNat = j
  · rw [if_pos g]
    subst g
    rw [if_pos (by rw [List.length_replicate]; omega), List.getElem?_replicate, if_pos (by omega)]
    rfl
  · rw [if_neg g]
theorem fm_sy {d : Dv} {a b : Int} (h : d.p = ⟨false, false, a, b⟩) : d.syE = 0 := by
  unfold Dv.syE syncE
  rw [if_pos (fm_b h).1]
theorem fm_end {d : Dv} {a b : Int} {m i : Nat} (h : d.p = ⟨false, false, a - i, b + i⟩) (hl : d.la = List.replicate m blankS) (hlk : LoOk d.lo d.la.length) (hw : nowS d.la d.lo = List.replicate m blankS) : d.sy.p = ⟨false, false, a - (i + 1), b + (i + 1)⟩ ∧ d.sy.la = List.replicate m blankS ∧ d.sy.lo = [] := by
  refine ⟨?_, ?_, ?_⟩
  · show useS d.p = _
    rw [(fm_b h).2]
    congr 1 <;> omega
  · show syncA d.p d.la d.lo = _
    unfold syncA
    rw [if_pos (fm_b h).1, now_sync hlk, hw]
  · show syncO d.p d.lo = _
    unfold syncO
    rw [if_pos (fm_b h).1]
/-- the power goes, and comes; it is armed -/
def Dv.cr (d : Dv) (keep : List Int) : Dv := ⟨backS d.p, settleS d.lo d.la keep, []⟩
/-- a row of pages, as an element of a row of such -/
abbrev Gr := Value × List Pg
def GrIn (R : List Hp) (g : Gr) : Prop := Sl R 3 g.1 g.2.length (g.2.flatMap pgC) ∧ ∀ a ∈ g.2, PgIn R a
theorem GrIn.mono {R R' : List Hp} {g : Gr} (h : GrIn R g) (hs : R ⊆ R') : GrIn R' g := ⟨Sl.mono h.1 hs, fun a ha => (h.2 a ha).mono hs⟩
end Go.Q
namespace Go.Q
def pgT (a : Pg) : Int × Int × List Cel := (a.1, a.2.1, a.2.2.2)
/-- pages that are at hand tell what lies on the device -/
def Told (now : List Pg) (B : Nat → Bs) (n : Nat) : Prop := now.length = n ∧ ∀ k, k < n → ∃ a, now[k]? = some a ∧ pgOf (B k) k = (pgT a, 0)
set_option maxRecDepth 1000000 in
theorem read_zer : (readP (zer 256)).1 = false := by decide +kernel
theorem lpg_zer {no gsn : Int} {l : List Cel} (h : pageR no gsn l = true) : laidP no gsn l ≠ zer 256 := fun e => by
  have h1 := readP_laid h
  rw [e] at h1
  have h2 := read_zer
  rw [h1] at h2
  cases h2
theorem pgOf_laid {no gsn : Int} {l : List Cel} (h : pageR no gsn l = true) : pgOf (laidP no gsn l) no = ((no, gsn, l), 0) := by
  unfold pgOf
  rw [if_neg (lpg_zer h), readP_laid h, if_pos ⟨rfl, rfl⟩]
theorem Told.set {now : List Pg} {B : Nat → Bs} {n no : Nat} {a : Pg} {s : Bs} (h : Told now B n) (hn : no < n) (e : pgOf s no = (pgT a, 0)) : Told (now.set no a) (updB B no s) n := by
  refine ⟨by rw [List.length_set]; exact h.1, fun k hk => ?_⟩
  unfold updB
  by_cases g : k = no
  · subst g
    exact ⟨a, by rw [List.getElem?_set_self (by rw [h.1]; exact hk)], by rw [if_pos rfl]; exact e⟩
  · obtain ⟨b, h1, h2⟩ := h.2 k hk
    exact ⟨b, by rw [List.getElem?_set_ne (by omega)]; exact h1, by rw [if_neg g]; exact h2⟩
theorem Told.congr {now : List Pg} {B B' : Nat → Bs} {n : Nat} (h : Told now B n) (e : ∀ k, k < n → B' k = B k) : Told now B' n := ⟨h.1, fun k hk => by rw [e k hk]; exact h.2 k hk⟩
theorem lpg_right {a : Pg} (h : lpg a ≠ []) : pageR a.1 a.2.1 a.2.2.2 = true := by
  cases g : pageR a.1 a.2.1 a.2.2.2 with
  | true => rfl
  | false => exact absurd (laidP_no g) h
theorem lpg_len {a : Pg} (h : lpg a ≠ []) : (lpg a).length = 256 := laidP_len (lpg_right h)
theorem page_no {no gsn : Int} {l : List Cel} (h : pageR no gsn l = true) : 0 ≤ no ∧ no < 64 := by
  unfold pageR at h
  rw [Bool.and_eq_true] at h
  have := of_decide_eq_true h.1
  exact ⟨this.1, this.2.1⟩
/-- groups of a Store have their places -/
theorem gok_st {n k : Nat} {no : Nat} {s : Bs} (hk : 5 + 4 * n ≤ k) (hn : no < n) (h64 : no < 64) (hs : s.length = 256) : ∀ g ∈ stG no s, GOk g k := by
  intro g hg
  simp only [stG, List.mem_cons, List.not_mem_nil, or_false] at hg
  rcases hg with rfl | rfl | rfl | rfl
  · exact gok_set hs (by decide) (by omega)
  · exact gok_mrk ⟨by omega, by omega⟩ (by omega)
  · exact gok_set hs (by unfold plc; omega) (by unfold plc; omega)
  · exact gok_nil (by omega)
theorem gok_mend {n k : Nat} {no : Nat} {s : Bs} (hk : 5 + 4 * n ≤ k) (hn : no < n) (hs : s.length = 256) : ∀ g ∈ mendG no s, GOk g k := by
  intro g hg
  simp only [mendG, List.mem_cons, List.not_mem_nil, or_false] at hg
  rcases hg with rfl | rfl
  · exact gok_set hs (by unfold plc; omega) (by unfold plc; omega)
  · exact gok_nil (by omega)
/-- a Store on pages as they lie: it comes through, or a crash ends it -/
theorem st_spec {p : Pw} {la : List Bs} {n : Nat} {B : Nat → Bs} {a : Pg} (hT : Tw la n B) (ho : p.off = false) (hs : lpg a ≠ []) (hn : a.1 < (n : Int)) :
    ((st1 ⟨p, la, []⟩ n a).1 = 0 ∧ Tw (st1 ⟨p, la, []⟩ n a).2.la n (updB B a.1.toNat (lpg a)) ∧ (st1 ⟨p, la, []⟩ n a).2.lo = [] ∧ (st1 ⟨p, la, []⟩ n a).2.p.off = false) ∨
    ((st1 ⟨p, la, []⟩ n a).1 = 6 ∧ LoOk (st1 ⟨p, la, []⟩ n a).2.lo (st1 ⟨p, la, []⟩ n a).2.la.length ∧ ∀ keep, Pend (settleS (st1 ⟨p, la, []⟩ n a).2.lo (st1 ⟨p, la, []⟩ n a).2.la keep) n B a.1.toNat (lpg a)) := by
  have hR := page_no (lpg_right hs)
  obtain ⟨no, e⟩ : ∃ no : Nat, a.1 = (no : Int) := ⟨a.1.toNat, by omega⟩
  have hL := lpg_len hs
  have hlen := hT.len
  have e1 : st1 ⟨p, la, []⟩ n a = runs ⟨p, la, []⟩ (stG no (lpg a)) := by unfold st1; rw [if_neg (fun g => g.elim hs (by omega)), e]
  rw [e1, e, Int.toNat_natCast]
  rcases runs_spec (stG no (lpg a)) p la (gok_st (n := n) hlen (by omega) (by omega) hL) ho with ⟨h1, h2, h3, h4⟩ | ⟨h1, h2, pre, g, post, h3, h4, h5⟩
  · exact .inl ⟨h1, by rw [h2]; exact st_ok hT hL (by omega), h3, h4⟩
  · refine .inr ⟨h1, by rw [runs_len]; exact h2, fun keep => ?_⟩
    rw [h4]
    exact st_mix hT hL (by omega) h3 (crash_mix h5 (fun q hq => (h2 q hq).1.1) keep _)
theorem noted_blank (n : Int) : notedS blankS n = (-1, 0) := if_pos rfl
theorem put_one {no : Nat} (h : no < 64) : putS 1 [(no : Int) + 1] = [by8 ((no : Int) + 1)] := by rw [put1 ⟨by omega, by omega⟩, be1]
theorem note_head {no : Nat} (h : no < 64) : noteS no = by8 ((no : Int) + 1) :: zer 63 := by
  unfold noteS
  rw [put_one h]
  rfl
theorem by8_one {x : Int} (h : 0 ≤ x ∧ x ≤ 255) : ((by8 x).toNat : Int) = x := by
  have e := by8_len (n := x.toNat) (by omega)
  rw [show ((x.toNat : Nat) : Int) = x by omega] at e
  omega
theorem noted_note {no n : Nat} (h : no < n) (hn : n ≤ 64) : notedS (noteS no) n = ((no : Int), 0) := by
  have e := by8_one (x := (no : Int) + 1) ⟨by omega, by omega⟩
  rw [note_head (by omega)]
  unfold notedS
  have h0 : ((by8 ((no : Int) + 1) :: zer 63)[0]?).getD 0 = by8 ((no : Int) + 1) := rfl
  have h1 : (by8 ((no : Int) + 1) :: zer 63).drop 1 = zer 63 := rfl
  rw [h0, h1]
  have hne : by8 ((no : Int) + 1) :: zer 63 ≠ zer 64 := fun g => by
    have g1 : by8 ((no : Int) + 1) = 0 := (List.cons.inj (show by8 ((no : Int) + 1) :: zer 63 = 0 :: zer 63 from g)).1
    rw [g1] at e
    have : ((0 : UInt8).toNat : Int) = 0 := rfl
    omega
  rw [if_neg hne, if_neg (fun g => g.elim (fun g => by omega) (fun g => g.elim (fun g => by omega) (fun g => g rfl)))]
  have : (((by8 ((no : Int) + 1)).toNat : Int) - 1, (0 : Int)) = ((no : Int), 0) := by rw [e]; congr 1; omega
  exact this
/-- the mending of what may be under way -/
theorem mend_spec {p : Pw} {la : List Bs} {n : Nat} {B : Nat → Bs} {no : Nat} {gsn : Int} {l : List Cel} (hP : Pend la n B no (laidP no gsn l)) (hr : pageR no gsn l = true) (hn : no < n) (hn64 : n ≤ 64) (ho : p.off = false) :
    ((mendR ⟨p, la, []⟩ n).1 = 0 ∧ (Tw (mendR ⟨p, la, []⟩ n).2.la n B ∨ Tw (mendR ⟨p, la, []⟩ n).2.la n (updB B no (laidP no gsn l))) ∧ (mendR ⟨p, la, []⟩ n).2.lo = [] ∧ (mendR ⟨p, la, []⟩ n).2.p.off = false) ∨
    ((mendR ⟨p, la, []⟩ n).1 = 6 ∧ LoOk (mendR ⟨p, la, []⟩ n).2.lo (mendR ⟨p, la, []⟩ n).2.la.length ∧ ∀ keep, Pend (settleS (mendR ⟨p, la, []⟩ n).2.lo (mendR ⟨p, la, []⟩ n).2.la keep) n B no (laidP no gsn l)) := by
  have hL := laidP_len hr
  obtain ⟨hlen, ⟨h0, hp⟩ | ⟨h0, hc, hb⟩⟩ := hP
  · have e : mendR ⟨p, la, []⟩ n = (0, ⟨p, la, []⟩) := by
      unfold mendR
      simp only [h0, noted_blank, ho]
      rfl
    rw [e]
    exact .inl ⟨rfl, hp.imp (fun q => ⟨hlen, h0, q⟩) (fun q => ⟨hlen, h0, q⟩), rfl, ho⟩
  · have e : mendR ⟨p, la, []⟩ n = runs ⟨p, la, []⟩ (mendG no (laidP no gsn l)) := by
      unfold mendR
      simp only [h0, hc, noted_note hn hn64, readP_laid hr, ho]
      rw [if_neg (by decide), if_neg (by decide), if_neg (by omega), if_pos ⟨trivial, trivial⟩]
    rw [e]
    rcases runs_spec (mendG no (laidP no gsn l)) p la (gok_mend (n := n) hlen hn hL) ho with ⟨h1, h2, h3, h4⟩ | ⟨h1, h2, pre, g, post, h3, h4, h5⟩
    · exact .inl ⟨h1, .inr (by rw [h2]; exact mend_okT hlen hb hL hn), h3, h4⟩
    · refine .inr ⟨h1, by rw [runs_len]; exact h2, fun keep => ?_⟩
      rw [h4]
      exact mend_mix hlen h0 hc hb hL hn h3 (crash_mix h5 (fun q hq => (h2 q hq).1.1) keep _)
theorem tw_mend {p : Pw} {la : List Bs} {n : Nat} {B : Nat → Bs} (h : Tw la n B) (ho : p.off = false) : mendR ⟨p, la, []⟩ n = (0, ⟨p, la, []⟩) := by
  unfold mendR
  simp only [h.note, noted_blank, ho]
  rfl
theorem few_fm (m : Nat) : Few (Pw.mk false false (0 - ((m : Int) + 1)) (0 + ((m : Int) + 1))) (m + 1) := ⟨by show 0 ≤ 0 + ((m : Int) + 1); omega, by show 0 + ((m : Int) + 1) ≤ _; omega, by show _ ≤ 0 - ((m : Int) + 1); omega, by show 0 - ((m : Int) + 1) ≤ _; omega⟩
end Go.Q
namespace Go.Q
open Go.Proofs
set_option linter.unusedVariables false
set_option maxRecDepth 100000
attribute [local irreducible] wpList OK Code.wp
theorem dv_wr {E w : World} {R sg : List Hp} {pb db : Nat} {d : Dv} (hH : Has E w [sg, [Hp.one pb (.cells #[(.bool d.p.off), (.bool d.p.armed), (.int .i64 d.p.left), (.int .i64 d.p.uses)] 101 (0, 0))], R]) (hd : DevAt pb sg db d.la d.lo) (hp : PwOk d.p) (h4 : d.la.length ≤ 4096) (n : Int) {vd : Value} {l : List Bs} (hv : Sl R 1 vd l.length (l.map sV)) {s : Bs} (hs : l.flatten = s) (hn : l.length ≤ 1000000) (hl : s.length ≤ 1000000000) :
    Calls Tryz.prog 52 #[.pointer (some ⟨db, 0, none⟩), .int .i64 n, vd] w fun e w' => ∃ sg', e = .returned (.int .i64 (d.wrE n s)) ∧ DevAt pb sg' db (d.wr n s).la (d.wr n s).lo ∧ Has E w' [sg', [Hp.one pb (.cells #[(.bool (d.wr n s).p.off), (.bool (d.wr n s).p.armed), (.int .i64 (d.wr n s).p.left), (.int .i64 (d.wr n s).p.uses)] 101 (0, 0))], R] := by
  subst hs
  exact write_d hH hd hp h4 n hv hn hl
theorem dv_sy {E w : World} {R sg : List Hp} {pb db : Nat} {d : Dv} (hH : Has E w [sg, [Hp.one pb (.cells #[(.bool d.p.off), (.bool d.p.armed), (.int .i64 d.p.left), (.int .i64 d.p.uses)] 101 (0, 0))], R]) (hd : DevAt pb sg db d.la d.lo) (hp : PwOk d.p) (h4 : d.la.length ≤ 4096) (hlk : LoOk d.lo d.la.length) :
    Calls Tryz.prog 27 #[.pointer (some ⟨db, 0, none⟩)] w fun e w' => ∃ sg', e = .returned (.int .i64 d.syE) ∧ DevAt pb sg' db d.sy.la d.sy.lo ∧ Has E w' [sg', [Hp.one pb (.cells #[(.bool d.sy.p.off), (.bool d.sy.p.armed), (.int .i64 d.sy.p.left), (.int .i64 d.sy.p.uses)] 101 (0, 0))], R] := sync_d hH hd hp h4 hlk
end Go.Q
namespace Go.Q
open Go.Proofs
set_option linter.unusedVariables false
set_option maxRecDepth 100000
attribute [local irreducible] wpList OK Code.wp
set_option maxHeartbeats 4000000 in
theorem need_c {E w : World} {R : List Hp} (hH : Has E w [R]) (n : Int) :
    Calls Tryz.prog 12 #[(.int .i64 n)] w fun e w' => e = .returned (.int .i64 (if n < 1 ∨ 64 < n then 0 else 5 + n * 4)) ∧ Has E w' [R] := by
  refine c_enter (args := [(.int .i64 n)]) Tryz.func12 rfl Tryz.ntmps12 (by simp) ?_
  refine wp_seq_k fun K1 hK1 => ?_
  refine c_region ?_
  refine s_op (o_assign (v := (.int .i64 0)) rfl ?_)
  refine s_nil ?_
  refine t_norm (hK1 _ _ ?_)
  refine wp_seq_k fun K2 hK2 => ?_
  refine wp_seq_k fun K3 hK3 => ?_
  refine c_region ?_
  refine s_op (o_move (v := (.int .i64 n)) rfl ?_)
  refine s_op (o_lss (a := n) (b := 1) rfl rfl ?_)
  refine s_op (o_move (v := (.bool (decide (n < 1)))) rfl ?_)
  by_cases h4 : n < 1
  · -- n < 1
    refine s_off (b' := true) 5 rfl (congrArg Value.bool (decide_eq_true h4)) rfl ?_
    refine s_off (b' := true) 5 rfl (congrArg Value.bool (decide_eq_true h4)) rfl ?_
    refine s_op (o_pick_t (u := (.bool true)) ((rfl : _ = _).trans (congrArg Value.bool (decide_eq_true h4))) rfl ?_)
    refine s_nil ?_
    refine t_norm (hK3 _ _ ?_)
    refine c_true rfl rfl ?_
    refine wp_seq_k fun K5 hK5 => ?_
    refine c_region ?_
    refine s_op (o_assign (v := (.int .i64 0)) rfl ?_)
    refine s_nil ?_
    refine t_norm (hK5 _ _ ?_)
    refine wp_ret ?_
    refine t_ret (c_ret1 Tryz.results12  (v := (.int .i64 0)) rfl ?_)
    exact ⟨by first | (rw [if_pos (by omega)]; done) | (rw [if_neg (by omega)]; done) | (rw [if_neg (by omega)]; congr 2; omega), hH⟩
  · -- not: n < 1
    refine s_on 5 rfl (congrArg Value.bool (decide_eq_false h4)) (o_move (v := (.int .i64 n)) rfl ?_)
    refine s_on 5 rfl (congrArg Value.bool (decide_eq_false h4)) (o_gtr (a := n) (b := 64) rfl rfl ?_)
    refine s_op (o_pick_f (u := (.bool (decide (64 < n)))) ((rfl : _ = _).trans (congrArg Value.bool (decide_eq_false h4))) rfl ?_)
    refine s_nil ?_
    refine t_norm (hK3 _ _ ?_)
    refine c_cond rfl (fun h6 => ?_) (fun h6 => ?_)
    · -- 64 < n
      refine wp_seq_k fun K7 hK7 => ?_
      refine c_region ?_
      refine s_op (o_assign (v := (.int .i64 0)) rfl ?_)
      refine s_nil ?_
      refine t_norm (hK7 _ _ ?_)
      refine wp_ret ?_
      refine t_ret (c_ret1 Tryz.results12  (v := (.int .i64 0)) rfl ?_)
      exact ⟨by first | (rw [if_pos (by omega)]; done) | (rw [if_neg (by omega)]; done) | (rw [if_neg (by omega)]; congr 2; omega), hH⟩
    · -- not: 64 < n
      refine wp_skip ?_
      refine t_norm (hK2 _ _ ?_)
      refine wp_seq_k fun K8 hK8 => ?_
      refine c_region ?_
      refine s_op (o_move (v := (.int .i64 n)) rfl ?_)
      refine s_op (o_mul (a := n) (b := 4) rfl rfl (w64 (by omega) (by omega)) ?_)
      refine s_op (o_add (a := 5) (b := n * 4) rfl rfl (w64 (by omega) (by omega)) ?_)
      refine s_op (o_assign (v := (.int .i64 (5 + (n * 4)))) rfl ?_)
      refine s_nil ?_
      refine t_norm (hK8 _ _ ?_)
      refine wp_ret ?_
      refine c_ret1 Tryz.results12  (v := (.int .i64 (5 + (n * 4)))) rfl ?_
      exact ⟨by first | (rw [if_pos (by omega)]; done) | (rw [if_neg (by omega)]; done) | (rw [if_neg (by omega)]; congr 2; omega), hH⟩
theorem need_ok {E w : World} {R : List Hp} (hH : Has E w [R]) {n : Int} (hn : 1 ≤ n ∧ n ≤ 64) : Calls Tryz.prog 12 #[.int .i64 n] w fun e w' => e = .returned (.int .i64 (5 + n * 4)) ∧ Has E w' [R] := by
  have h_ := need_c hH n
  rw [if_neg (by omega)] at h_
  exact h_
set_option maxHeartbeats 4000000 in
theorem begin_ok {E w : World} {R sg : List Hp} {pb db : Nat} {d : Dv} (hH : Has E w [sg, [Hp.one pb (.cells #[(.bool d.p.off), (.bool d.p.armed), (.int .i64 d.p.left), (.int .i64 d.p.uses)] 101 (0, 0))], R]) (hd : DevAt pb sg db d.la d.lo) {n : Int} (h4 : d.la.length ≤ 4096) (hn : 1 ≤ n ∧ n ≤ 64) (hln : 5 + n * 4 ≤ d.la.length) (hon : d.p.off = false) :
    Calls Tryz.prog 50 #[(.pointer (some ⟨db, 0, none⟩)), (.int .i64 n)] w fun e w' => e = .returned (.int .i64 0) ∧ Has E w' [sg, [Hp.one pb (.cells #[(.bool d.p.off), (.bool d.p.armed), (.int .i64 d.p.left), (.int .i64 d.p.uses)] 101 (0, 0))], R] := by
  refine c_enter (args := [(.pointer (some ⟨db, 0, none⟩)), (.int .i64 n)]) Tryz.func50 rfl Tryz.ntmps50 (by simp) ?_
  refine wp_seq_k fun K1 hK1 => ?_
  refine c_region ?_
  refine s_op (o_assign (v := (.int .i64 0)) rfl ?_)
  refine s_nil ?_
  refine t_norm (hK1 _ _ ?_)
  refine wp_seq_k fun K2 hK2 => ?_
  refine wp_seq_k fun K3 hK3 => ?_
  refine c_region ?_
  refine s_op (o_move (v := (.int .i64 n)) rfl ?_)
  refine s_op (o_callf (vs := #[(.int .i64 n)]) ca12 rfl (args1 rfl) (need_ok hH.all (n := n) (by omega)) ?_)
  rintro _ w6 ⟨rfl, hX4⟩
  refine ⟨_, rfl, ?_⟩
  have hH5 := hX4.of_all
  refine s_op (o_assign (v := (.int .i64 (5 + n * 4))) rfl ?_)
  refine s_nil ?_
  refine t_norm (hK3 _ _ ?_)
  refine wp_block ?_
  refine wp_seq_k fun K7 hK7 => ?_
  refine c_region ?_
  refine s_op (o_move (v := (.int .i64 (5 + n * 4))) rfl ?_)
  refine s_op (o_eql (a := 5 + n * 4) (b := 0) rfl rfl ?_)
  refine s_op (o_move (v := (.bool (decide (5 + n * 4 = 0)))) rfl ?_)
  by_cases h8 : 5 + n * 4 = 0
  · -- 5 + n * 4 = 0
    exfalso; omega
  · -- not: 5 + n * 4 = 0
    refine s_on 11 rfl (congrArg Value.bool (decide_eq_false h8)) (o_move (v := (.pointer (some ⟨db, 0, none⟩))) rfl ?_)
    refine s_on 11 rfl (congrArg Value.bool (decide_eq_false h8)) (o_callf (vs := #[(.pointer (some ⟨db, 0, none⟩))]) ca51 rfl (args1 rfl) (sectors_d (p := d.p) (la := d.la) (lo := d.lo) ((hH5.front 1 rfl).front 1 rfl).all2 hd ) ?_)
    rintro _ w11 ⟨rfl, hX9⟩
    refine ⟨_, rfl, ?_⟩
    have hH10 : Has E w11 [sg, [Hp.one pb (.cells #[(.bool d.p.off), (.bool d.p.armed), (.int .i64 d.p.left), (.int .i64 d.p.uses)] 101 (0, 0))], R] := hX9.of_all2
    refine s_on 11 rfl (congrArg Value.bool (decide_eq_false h8)) (o_move (v := (.int .i64 (5 + n * 4))) rfl ?_)
    refine s_on 11 rfl (congrArg Value.bool (decide_eq_false h8)) (o_lss (a := ((d.la.length : Nat) : Int)) (b := 5 + n * 4) rfl rfl ?_)
    refine s_op (o_pick_f (u := (.bool (decide (((d.la.length : Nat) : Int) < 5 + n * 4)))) ((rfl : _ = _).trans (congrArg Value.bool (decide_eq_false h8))) rfl ?_)
    refine s_op (o_assign (v := (.bool (decide (((d.la.length : Nat) : Int) < 5 + n * 4)))) rfl ?_)
    refine s_nil ?_
    refine t_norm (hK7 _ _ ?_)
    refine c_cond rfl (fun h12 => ?_) (fun h12 => ?_)
    · -- ((d.la.length : Nat) : Int) < 5 + n * 4
      exfalso; omega
    · -- not: ((d.la.length : Nat) : Int) < 5 + n * 4
      refine wp_seq_k fun K13 hK13 => ?_
      refine c_region ?_
      refine s_op (o_move (v := (.pointer (some ⟨db, 0, none⟩))) rfl ?_)
      refine s_op (o_callf (vs := #[(.pointer (some ⟨db, 0, none⟩))]) ca72 rfl (args1 rfl) (don_d (p := d.p) (la := d.la) (lo := d.lo) ((hH10.front 1 rfl).front 1 rfl).all2 hd ) ?_)
      rintro _ w16 ⟨rfl, hX14⟩
      refine ⟨_, rfl, ?_⟩
      have hH15 : Has E w16 [sg, [Hp.one pb (.cells #[(.bool d.p.off), (.bool d.p.armed), (.int .i64 d.p.left), (.int .i64 d.p.uses)] 101 (0, 0))], R] := hX14.of_all2
      refine s_op (o_not rfl ?_)
      refine s_op (o_assign (v := (.bool (!(!d.p.off)))) rfl ?_)
      refine s_nil ?_
      refine t_norm (hK13 _ _ ?_)
      refine c_condb rfl (fun h17 => ?_) (fun h17 => ?_)
      · -- !(!d.p.off)
        have h17_n : (!d.p.off) = false := by simpa using h17
        have h17_n_n : d.p.off = true := by simpa using h17_n
        exact absurd h17 (by rw [hon]; decide)
      · -- not: !(!d.p.off)
        have h17_n : (!d.p.off) = true := by simpa using h17
        have h17_n_n : d.p.off = false := by simpa using h17_n
        refine wp_skip ?_
        refine b_norm ?_
        refine t_norm (hK2 _ _ ?_)
        refine wp_seq_k fun K18 hK18 => ?_
        refine c_region ?_
        refine s_op (o_assign (v := (.int .i64 0)) rfl ?_)
        refine s_nil ?_
        refine t_norm (hK18 _ _ ?_)
        refine wp_ret ?_
        refine c_ret1 Tryz.results50  (v := (.int .i64 0)) rfl ?_
        exact ⟨rfl, hH15⟩
end Go.Q
namespace Go.Q
open Go.Proofs
set_option linter.unusedVariables false
set_option maxRecDepth 100000
attribute [local irreducible] wpList OK Code.wp
set_option maxHeartbeats 4000000 in
theorem fits_c {E w : World} {R : List Hp} (hH : Has E w [R]) (n : Int) (m : Nat) (hm : m ≤ 8) :
    Calls Tryz.prog 142 #[(.int .i64 n), (.int .i64 (m : Int))] w fun e w' => e = .returned (.bool (fitsS n m)) ∧ Has E w' [R] := by
  refine c_enter (args := [(.int .i64 n), (.int .i64 (m : Int))]) Tryz.func142 rfl Tryz.ntmps142 (by simp) ?_
  refine wp_seq_k fun K1 hK1 => ?_
  refine c_region ?_
  refine s_op (o_assign (v := (.bool false)) rfl ?_)
  refine s_nil ?_
  refine t_norm (hK1 _ _ ?_)
  refine wp_seq_k fun K2 hK2 => ?_
  refine c_region ?_
  refine s_op (o_move (v := (.int .i64 n)) rfl ?_)
  refine s_op (o_geq (a := n) (b := 0) rfl rfl ?_)
  refine s_op (o_move (v := (.bool (decide (0 ≤ n)))) rfl ?_)
  by_cases h3 : 0 ≤ n
  · -- 0 ≤ n
    refine s_on 7 rfl (congrArg Value.bool (decide_eq_true h3)) (o_move (v := (.int .i64 (m : Int))) rfl ?_)
    refine s_on 7 rfl (congrArg Value.bool (decide_eq_true h3)) (o_eql (a := (m : Int)) (b := 8) rfl rfl ?_)
    refine s_on 7 rfl (congrArg Value.bool (decide_eq_true h3)) (o_move (v := (.bool (decide ((m : Int) = 8)))) rfl ?_)
    by_cases h4 : (m : Int) = 8
    · -- (m : Int) = 8
      refine s_off (b' := true) 10 rfl (congrArg Value.bool (decide_eq_true h4)) rfl ?_
      refine s_off (b' := true) 10 rfl (congrArg Value.bool (decide_eq_true h4)) rfl ?_
      refine s_off (b' := true) 10 rfl (congrArg Value.bool (decide_eq_true h4)) rfl ?_
      refine s_off (b' := true) 10 rfl (congrArg Value.bool (decide_eq_true h4)) rfl ?_
      refine s_off (b' := true) 10 rfl (congrArg Value.bool (decide_eq_true h4)) rfl ?_
      refine s_on 7 rfl (congrArg Value.bool (decide_eq_true h3)) (o_pick_t (u := (.bool true)) ((rfl : _ = _).trans (congrArg Value.bool (decide_eq_true h4))) rfl ?_)
      refine s_op (o_pick_t (u := (.bool true)) ((rfl : _ = _).trans (congrArg Value.bool (decide_eq_true h3))) rfl ?_)
      refine s_op (o_assign (v := (.bool true)) rfl ?_)
      refine s_nil ?_
      refine t_norm (hK2 _ _ ?_)
      refine wp_ret ?_
      refine c_ret1 Tryz.results142  (v := (.bool true)) rfl ?_
      exact ⟨by simp [fitsS, *], hH⟩
    · -- not: (m : Int) = 8
      refine s_on 10 rfl (congrArg Value.bool (decide_eq_false h4)) (o_move (v := (.int .i64 n)) rfl ?_)
      refine s_on 10 rfl (congrArg Value.bool (decide_eq_false h4)) (o_move (v := (.int .i64 (m : Int))) rfl ?_)
      refine s_on 10 rfl (congrArg Value.bool (decide_eq_false h4)) (o_mul (a := 8) (b := (m : Int)) rfl rfl (w64 (by omega) (by omega)) ?_)
      refine s_on 10 rfl (congrArg Value.bool (decide_eq_false h4)) (o_shr (c := Int.fdiv n (2 ^ (min (8 * (m : Int)).toNat 64))) rfl rfl (by omega) rfl ?_)
      refine s_on 10 rfl (congrArg Value.bool (decide_eq_false h4)) (o_eql (a := Int.fdiv n (2 ^ (min (8 * (m : Int)).toNat 64))) (b := 0) rfl rfl ?_)
      refine s_on 7 rfl (congrArg Value.bool (decide_eq_true h3)) (o_pick_f (u := (.bool (decide (Int.fdiv n (2 ^ (min (8 * (m : Int)).toNat 64)) = 0)))) ((rfl : _ = _).trans (congrArg Value.bool (decide_eq_false h4))) rfl ?_)
      refine s_op (o_pick_t (u := (.bool (decide (Int.fdiv n (2 ^ (min (8 * (m : Int)).toNat 64)) = 0)))) ((rfl : _ = _).trans (congrArg Value.bool (decide_eq_true h3))) rfl ?_)
      refine s_op (o_assign (v := (.bool (decide (Int.fdiv n (2 ^ (min (8 * (m : Int)).toNat 64)) = 0)))) rfl ?_)
      refine s_nil ?_
      refine t_norm (hK2 _ _ ?_)
      refine wp_ret ?_
      refine c_ret1 Tryz.results142  (v := (.bool (decide (Int.fdiv n (2 ^ (min (8 * (m : Int)).toNat 64)) = 0)))) rfl ?_
      exact ⟨by simp [fitsS, *], hH⟩
  · -- not: 0 ≤ n
    refine s_off (b' := false) 7 rfl (congrArg Value.bool (decide_eq_false h3)) rfl ?_
    refine s_off (b' := false) 7 rfl (congrArg Value.bool (decide_eq_false h3)) rfl ?_
    refine s_off (b' := false) 7 rfl (congrArg Value.bool (decide_eq_false h3)) rfl ?_
    refine s_offu 10 rfl rfl ?_
    refine s_offu 10 rfl rfl ?_
    refine s_offu 10 rfl rfl ?_
    refine s_offu 10 rfl rfl ?_
    refine s_offu 10 rfl rfl ?_
    refine s_off (b' := false) 7 rfl (congrArg Value.bool (decide_eq_false h3)) rfl ?_
    refine s_op (o_pick_f (u := (.bool false)) ((rfl : _ = _).trans (congrArg Value.bool (decide_eq_false h3))) rfl ?_)
    refine s_op (o_assign (v := (.bool false)) rfl ?_)
    refine s_nil ?_
    refine t_norm (hK2 _ _ ?_)
    refine wp_ret ?_
    refine c_ret1 Tryz.results142  (v := (.bool false)) rfl ?_
    exact ⟨by simp [fitsS, *], hH⟩
set_option maxHeartbeats 4000000 in
theorem put_c {E w : World} {R : List Hp} (hH : Has E w [R]) (m : Nat) {v : Value} {l : List Int} (hv : Ints R v l) (hl : l.length ≤ 1000000) :
    Calls Tryz.prog 121 #[(.int .i64 (m : Int)), v] w fun e w' => e = .returned (S (putS m l)) ∧ Has E w' [R] := by
  have hml0 : 0 ≤ (m : Int) * (l.length : Int) := Int.mul_nonneg (by omega) (by omega)
  have hml : m ≤ 8 → (m : Int) * (l.length : Int) ≤ 8000000 := fun h => by have h2 : m * l.length ≤ 8 * 1000000 := Nat.mul_le_mul h hl; have h3 := Int.ofNat_le.2 h2; rw [Int.natCast_mul] at h3; omega
  refine c_enter (args := [(.int .i64 (m : Int)), v]) Tryz.func121 rfl Tryz.ntmps121 (by simp) ?_
  refine wp_seq_k fun K1 hK1 => ?_
  refine c_region ?_
  refine s_op (o_assign (v := (S ([] : List UInt8))) rfl ?_)
  refine s_nil ?_
  refine t_norm (hK1 _ _ ?_)
  refine wp_seq_k fun K2 hK2 => ?_
  refine wp_seq_k fun K3 hK3 => ?_
  refine c_region ?_
  refine s_op (o_move (v := (.int .i64 (m : Int))) rfl ?_)
  refine s_op (o_lss (a := (m : Int)) (b := 1) rfl rfl ?_)
  refine s_op (o_move (v := (.bool (decide ((m : Int) < 1)))) rfl ?_)
  by_cases h4 : (m : Int) < 1
  · -- (m : Int) < 1
    refine s_off (b' := true) 11 rfl (congrArg Value.bool (decide_eq_true h4)) rfl ?_
    refine s_off (b' := true) 11 rfl (congrArg Value.bool (decide_eq_true h4)) rfl ?_
    refine s_op (o_pick_t (u := (.bool true)) ((rfl : _ = _).trans (congrArg Value.bool (decide_eq_true h4))) rfl ?_)
    refine s_nil ?_
    refine t_norm (hK3 _ _ ?_)
    refine c_true rfl rfl ?_
    refine wp_seq_k fun K5 hK5 => ?_
    refine c_region ?_
    refine s_op (o_assign (v := (S ([] : List UInt8))) rfl ?_)
    refine s_nil ?_
    refine t_norm (hK5 _ _ ?_)
    refine wp_ret ?_
    refine t_ret (c_ret1 Tryz.results121  (v := (S ([] : List UInt8))) rfl ?_)
    exact ⟨by rw [putS, if_neg (by omega)], hH⟩
  · -- not: (m : Int) < 1
    refine s_on 11 rfl (congrArg Value.bool (decide_eq_false h4)) (o_move (v := (.int .i64 (m : Int))) rfl ?_)
    refine s_on 11 rfl (congrArg Value.bool (decide_eq_false h4)) (o_gtr (a := (m : Int)) (b := 8) rfl rfl ?_)
    refine s_op (o_pick_f (u := (.bool (decide (8 < (m : Int))))) ((rfl : _ = _).trans (congrArg Value.bool (decide_eq_false h4))) rfl ?_)
    refine s_nil ?_
    refine t_norm (hK3 _ _ ?_)
    refine c_cond rfl (fun h6 => ?_) (fun h6 => ?_)
    · -- 8 < (m : Int)
      refine wp_seq_k fun K7 hK7 => ?_
      refine c_region ?_
      refine s_op (o_assign (v := (S ([] : List UInt8))) rfl ?_)
      refine s_nil ?_
      refine t_norm (hK7 _ _ ?_)
      refine wp_ret ?_
      refine t_ret (c_ret1 Tryz.results121  (v := (S ([] : List UInt8))) rfl ?_)
      exact ⟨by rw [putS, if_neg (by omega)], hH⟩
    · -- not: 8 < (m : Int)
      refine wp_skip ?_
      refine t_norm (hK2 _ _ ?_)
      refine wp_seq_k fun K8 hK8 => ?_
      refine c_region ?_
      refine s_op (o_move (v := (.int .i64 (m : Int))) rfl ?_)
      refine s_op (o_move (v := v) rfl ?_)
      refine s_op (o_lenS Tryz.underlying40 rfl hv ?_)
      refine s_op (o_mul (a := (m : Int)) (b := ((l.length : Nat) : Int)) rfl rfl (w64 (by omega) (by omega)) ?_)
      refine s_op (o_make Tryz.underlying54 ti5 rfl rfl (by omega) (by omega) (by omega) (by omega) hH fun v9 s10 w12 ho11 hH13 => ?_)
      have ho11 : Own 5 1 v9 0 [] s10 := by simpa using ho11
      refine s_op (o_assign (v := v9) rfl ?_)
      refine s_nil ?_
      refine t_norm (hK8 _ _ ?_)
      refine wp_seq_k fun K14 hK14 => ?_
      refine wp_seq_k fun K15 hK15 => ?_
      refine c_region ?_
      refine s_op (o_move (v := v) rfl ?_)
      refine s_op (o_lenS Tryz.underlying40 rfl hv ?_)
      refine s_op (o_move (v := (.int .i64 0)) rfl ?_)
      refine s_nil ?_
      refine t_norm (hK15 _ _ ?_)
      refine wp_block ?_
      let I17 : Nat → (Nat → Value) → World → Prop := fun n__ r__ w__ => ∃ (k : Nat) (vb : Value) (hs : List Hp) (lb : List UInt8), n__ = l.length - k ∧ Has E w__ [hs, R] ∧ (k ≤ l.length) ∧ (Own 5 1 vb lb.length (lb.map bV) hs) ∧ (lb = (l.take k).flatMap (beFrom · m)) ∧ (∀ x ∈ l.take k, fitsS x m = true) ∧ (lb.length ≤ 8 * k) ∧ r__ 0 = (.int .i64 (m : Int)) ∧ r__ 1 = v ∧ r__ 5 = vb ∧ r__ 14 = (.bool (decide (8 < (m : Int)))) ∧ r__ 20 = v ∧ r__ 21 = (.int .i64 ((l.length : Nat) : Int)) ∧ r__ 22 = (.int .i64 (k : Int))
      refine c_loop I17 _ ⟨0, v9, s10, [], rfl, hH13, Nat.zero_le _, ho11, rfl, (by simp), (by simp), rfl, rfl, rfl, rfl, rfl, rfl, rfl⟩ ?_
      rintro n_ r20 w18 ⟨k, vb, hs, lb, rfl, hH19, hk, hob, hlb, hfit, hlen, e16_0, e16_1, e16_5, e16_14, e16_20, e16_21, e16_22⟩
      refine wp_seq_k fun K21 hK21 => ?_
      refine c_region ?_
      refine s_op (o_lss (a := (k : Int)) (b := ((l.length : Nat) : Int)) e16_22 e16_21 ?_)
      refine s_nil ?_
      refine t_norm (hK21 _ _ ?_)
      refine wp_seq_k fun K22 hK22 => ?_
      refine c_cond rfl (fun h23 => ?_) (fun h23 => ?_)
      · -- (k : Int) < ((l.length : Nat) : Int)
        refine wp_skip ?_
        refine t_norm (hK22 _ _ ?_)
        refine wp_seq_k fun K24 hK24 => ?_
        refine wp_block ?_
        refine wp_seq_k fun K25 hK25 => ?_
        refine c_region ?_
        obtain ⟨x29, hx30⟩ : ∃ x_, l[((k : Int)).toNat]? = some x_ := get_some (by omega)
        refine s_op (o_index1 Tryz.underlying40 ti3 e16_20 hv e16_22 (by omega) hx30 fun b26 o27 hc28 => ?_)
        refine s_op (o_load1 (v := (.int .i64 x29)) Tryz.underlying3 rfl rfl hH19 (seg_sub 1 rfl) hc28 ?_)
        refine s_op (o_assign (v := (.int .i64 x29)) rfl ?_)
        refine s_nil ?_
        refine t_norm (hK25 _ _ ?_)
        refine wp_seq_k fun K31 hK31 => ?_
        refine wp_seq_k fun K32 hK32 => ?_
        refine c_region ?_
        refine s_op (o_move (v := (.int .i64 x29)) rfl ?_)
        refine s_op (o_move (v := (.int .i64 (m : Int))) e16_0 ?_)
        refine s_op (o_callf (vs := #[(.int .i64 x29), (.int .i64 (m : Int))]) ca142 rfl (args2 rfl rfl) (fits_c hH19.all x29 m (by omega)) ?_)
        rintro _ w35 ⟨rfl, hX33⟩
        refine ⟨_, rfl, ?_⟩
        have hH34 := hX33.of_all
        refine s_op (o_not rfl ?_)
        refine s_nil ?_
        refine t_norm (hK32 _ _ ?_)
        refine c_condb rfl (fun h36 => ?_) (fun h36 => ?_)
        · -- !(fitsS x29 m)
          have h36_n : (fitsS x29 m) = false := by simpa using h36
          refine wp_seq_k fun K37 hK37 => ?_
          refine c_region ?_
          refine s_op (o_assign (v := (S ([] : List UInt8))) rfl ?_)
          refine s_nil ?_
          refine t_norm (hK37 _ _ ?_)
          refine wp_ret ?_
          refine t_ret (b_ret (t_ret (t_ret (b_ret (t_ret (c_ret1 Tryz.results121  (v := (S ([] : List UInt8))) rfl ?_))))))
          have hH38 : Has E w35 [R] := (hH34.front 1 rfl).first 1 rfl
          exact ⟨by rw [putS_no (x := x29) (List.mem_of_getElem? hx30) (by simpa using h36)], hH38⟩
        · -- not: !(fitsS x29 m)
          have h36_n : (fitsS x29 m) = true := by simpa using h36
          refine wp_skip ?_
          refine t_norm (hK31 _ _ ?_)
          refine wp_seq_k fun K39 hK39 => ?_
          refine c_region ?_
          refine s_op (o_move (v := (.int .i64 (m : Int))) e16_0 ?_)
          refine s_op (o_sub (a := (m : Int)) (b := 1) rfl rfl (w64 (by omega) (by omega)) ?_)
          refine s_op (o_assign (v := (.int .i64 ((m : Int) - 1))) rfl ?_)
          refine s_nil ?_
          refine t_norm (hK39 _ _ ?_)
          refine wp_block ?_
          let I41 : Nat → (Nat → Value) → World → Prop := fun n__ r__ w__ => ∃ (j : Nat) (i : Int) (vc : Value) (hs2 : List Hp) (lc : List UInt8), n__ = j + 1 ∧ Has E w__ [hs2, R] ∧ (j ≤ m) ∧ (i = (j : Int) - 1) ∧ (Own 5 1 vc lc.length (lc.map bV) hs2) ∧ (lb ++ beFrom x29 m = lc ++ beFrom x29 j) ∧ (lc.length + j ≤ lb.length + m) ∧ r__ 0 = (.int .i64 (m : Int)) ∧ r__ 1 = v ∧ r__ 5 = vc ∧ r__ 7 = (.int .i64 x29) ∧ r__ 8 = (.int .i64 i) ∧ r__ 14 = (.bool (decide (8 < (m : Int)))) ∧ r__ 20 = v ∧ r__ 21 = (.int .i64 ((l.length : Nat) : Int)) ∧ r__ 22 = (.int .i64 (k : Int)) ∧ r__ 23 = (.bool (decide ((k : Int) < ((l.length : Nat) : Int)))) ∧ r__ 29 = (.bool (!(fitsS x29 m)))
          refine c_loop I41 _ ⟨m, ((m : Int) - 1), vb, hs, lb, rfl, hH34, Nat.le_refl _, rfl, hob, rfl, (by omega), e16_0, e16_1, e16_5, rfl, rfl, e16_14, e16_20, e16_21, e16_22, rfl, rfl⟩ ?_
          rintro n_ r44 w42 ⟨j, i, vc, hs2, lc, rfl, hH43, hj, hi, hoc, hpart, hlen2, e40_0, e40_1, e40_5, e40_7, e40_8, e40_14, e40_20, e40_21, e40_22, e40_23, e40_29⟩
          refine wp_seq_k fun K45 hK45 => ?_
          refine wp_seq_k fun K46 hK46 => ?_
          refine c_region ?_
          refine s_op (o_move (v := (.int .i64 i)) e40_8 ?_)
          refine s_op (o_geq (a := i) (b := 0) rfl rfl ?_)
          refine s_nil ?_
          refine t_norm (hK46 _ _ ?_)
          refine c_cond rfl (fun h47 => ?_) (fun h47 => ?_)
          · -- 0 ≤ i
            refine wp_skip ?_
            refine t_norm (hK45 _ _ ?_)
            refine wp_seq_k fun K48 hK48 => ?_
            refine wp_block ?_
            refine c_region ?_
            refine s_op (o_move (v := vc) e40_5 ?_)
            refine s_op (o_move (v := (.int .i64 x29)) e40_7 ?_)
            refine s_op (o_move (v := (.int .i64 i)) e40_8 ?_)
            refine s_op (o_mul (a := 8) (b := i) rfl rfl (w64 (by omega) (by omega)) ?_)
            refine s_op (o_shr (c := Int.fdiv x29 (2 ^ (min (8 * i).toNat 64))) rfl rfl (by omega) rfl ?_)
            refine s_op (o_conv (c := ((by8 (Int.fdiv x29 (2 ^ (min (8 * i).toNat 64)))).toNat : Int)) Tryz.underlying3 Tryz.underlying5 rfl (wrap_by8 _) ?_)
            refine s_op (o_buildSlice (ps := #[(0, (bV (by8 (Int.fdiv x29 (2 ^ (min (8 * i).toNat 64))))))]) (cells := #[(bV (by8 (Int.fdiv x29 (2 ^ (min (8 * i).toNat 64)))))]) Tryz.underlying54 ti5 (by decide) (parts1 rfl) (by kernel_rfl) hH43 fun b49 w50 hH51 => ?_)
            refine s_op (o_append Tryz.underlying54 ti5 rfl (by decide) rfl hoc rfl (sl_lit (f := bV) (l := [(by8 (Int.fdiv x29 (2 ^ (min (8 * i).toNat 64))))]) rfl rfl (by simp)) (hH51.front 1 rfl) (seg_sub 0 rfl) (one_bV _) (by simp; omega) (by simp; omega) fun v52 s53 w55 ho54 hH56 => ?_)
            have ho54 : Own 5 1 v52 (lc ++ [(by8 (Int.fdiv x29 (2 ^ (min (8 * i).toNat 64))))]).length ((lc ++ [(by8 (Int.fdiv x29 (2 ^ (min (8 * i).toNat 64))))]).map bV) s53 := ho54.app
            refine s_op (o_assign (v := v52) rfl ?_)
            refine s_nil ?_
            refine b_norm ?_
            refine t_norm (hK48 _ _ ?_)
            refine c_region ?_
            refine s_op (o_move (v := (.int .i64 i)) e40_8 ?_)
            refine s_op (o_sub (a := i) (b := 1) rfl rfl (w64 (by omega) (by omega)) ?_)
            refine s_op (o_assign (v := (.int .i64 (i - 1))) rfl ?_)
            refine s_nil ?_
            have hH57 : Has E w55 [s53, R] := ((hH56.front 2 rfl).front 1 rfl).first 2 rfl
            refine t_norm ⟨(j - 1) + 1, _, rfl, ?_, ?_⟩
            · omega
            · exact ⟨(j - 1), (i - 1), v52, s53, (lc ++ [(by8 (Int.fdiv x29 (2 ^ (min (8 * i).toNat 64))))]), rfl, hH57, (by omega), (by omega), (ho54), (by rw [hpart, beFrom_pred (by omega), hi, by8_shift _ (by omega) (by omega)]; simp [List.append_assoc]), (by simp; omega), e40_0, e40_1, rfl, e40_7, rfl, e40_14, e40_20, e40_21, e40_22, e40_23, e40_29⟩
          · -- not: 0 ≤ i
            refine wp_exit ?_
            refine t_exit (t_exit (x_in (?_)))
            refine b_norm ?_
            refine t_norm (hK24 _ _ ?_)
            refine c_region ?_
            refine s_op (o_add (a := (k : Int)) (b := 1) e40_22 rfl (w64 (by omega) (by omega)) ?_)
            refine s_op (o_move (v := (.int .i64 ((k : Int) + 1))) rfl ?_)
            refine s_nil ?_
            refine t_norm ⟨l.length - (k + 1), _, rfl, ?_, ?_⟩
            · omega
            · exact ⟨(k + 1), vc, hs2, lc, rfl, hH43, (by omega), (hoc), (by (have e : j = 0 := by omega); rw [e] at hpart; rw [take_succ_of (by simpa using hx30), List.flatMap_append, ← hlb]; simpa [beFrom] using hpart.symm), (by rw [take_succ_of (by simpa using hx30)]; exact fun x hx => (List.mem_append.1 hx).elim (hfit x) (fun h => by simp at h; subst h; simpa using h36)), (by omega), e40_0, e40_1, e40_5, e40_14, e40_20, e40_21, rfl⟩
      · -- not: (k : Int) < ((l.length : Nat) : Int)
        refine wp_exit ?_
        refine t_exit (t_exit (x_in (?_)))
        refine t_norm (hK14 _ _ ?_)
        refine wp_seq_k fun K58 hK58 => ?_
        refine c_region ?_
        refine s_op (o_move (v := vb) e16_5 ?_)
        refine s_op (o_bstr Tryz.underlying54 Tryz.underlying5 Tryz.underlying9 rfl hob.sl hH19 (seg_sub 0 rfl) ?_)
        refine s_op (o_assign (v := (S lb)) rfl ?_)
        refine s_nil ?_
        refine t_norm (hK58 _ _ ?_)
        refine wp_ret ?_
        refine c_ret1 Tryz.results121  (v := (S lb)) rfl ?_
        have hH59 : Has E w18 [R] := (hH19.front 1 rfl).first 1 rfl
        have e : k = l.length := by omega
        subst e
        rw [List.take_of_length_le (Nat.le_refl _)] at hlb hfit
        exact ⟨by rw [putS_yes (by omega) (by omega) hfit, hlb], hH59⟩
set_option maxHeartbeats 4000000 in
theorem take_c {E w : World} {R : List Hp} (hH : Has E w [R]) (m : Nat) (s : List UInt8) (hsl : s.length ≤ 9223372036854775807) :
    Calls Tryz.prog 106 #[(S s), (.int .i64 (m : Int))] w fun e w' => e = .returned (.tuple #[.int .i64 (takeS s m).1, S (takeS s m).2.1, .bool (takeS s m).2.2]) ∧ Has E w' [R] := by
  refine c_enter (args := [(S s), (.int .i64 (m : Int))]) Tryz.func106 rfl Tryz.ntmps106 (by simp) ?_
  refine wp_seq_k fun K1 hK1 => ?_
  refine c_region ?_
  refine s_op (o_assign (v := (.int .i64 0)) rfl ?_)
  refine s_op (o_assign (v := (S ([] : List UInt8))) rfl ?_)
  refine s_op (o_assign (v := (.bool false)) rfl ?_)
  refine s_nil ?_
  refine t_norm (hK1 _ _ ?_)
  refine wp_seq_k fun K2 hK2 => ?_
  refine wp_seq_k fun K3 hK3 => ?_
  refine c_region ?_
  refine s_op (o_move (v := (.int .i64 (m : Int))) rfl ?_)
  refine s_op (o_lss (a := (m : Int)) (b := 1) rfl rfl ?_)
  refine s_op (o_move (v := (.bool (decide ((m : Int) < 1)))) rfl ?_)
  by_cases h4 : (m : Int) < 1
  · -- (m : Int) < 1
    refine s_off (b' := true) 11 rfl (congrArg Value.bool (decide_eq_true h4)) rfl ?_
    refine s_off (b' := true) 11 rfl (congrArg Value.bool (decide_eq_true h4)) rfl ?_
    refine s_op (o_pick_t (u := (.bool true)) ((rfl : _ = _).trans (congrArg Value.bool (decide_eq_true h4))) rfl ?_)
    refine s_op (o_move (v := (.bool true)) rfl ?_)
    refine s_off (b' := true) 15 rfl rfl rfl ?_
    refine s_off (b' := true) 15 rfl rfl rfl ?_
    refine s_off (b' := true) 15 rfl rfl rfl ?_
    refine s_off (b' := true) 15 rfl rfl rfl ?_
    refine s_op (o_pick_t (u := (.bool true)) rfl rfl ?_)
    refine s_op (o_move (v := (.bool true)) rfl ?_)
    refine s_off (b' := true) 21 rfl rfl rfl ?_
    refine s_off (b' := true) 21 rfl rfl rfl ?_
    refine s_off (b' := true) 21 rfl rfl rfl ?_
    refine s_offu 24 rfl rfl ?_
    refine s_offu 24 rfl rfl ?_
    refine s_offu 24 rfl rfl ?_
    refine s_off (b' := true) 21 rfl rfl rfl ?_
    refine s_op (o_pick_t (u := (.bool true)) rfl rfl ?_)
    refine s_nil ?_
    refine t_norm (hK3 _ _ ?_)
    refine c_true rfl rfl ?_
    refine wp_seq_k fun K5 hK5 => ?_
    refine c_region ?_
    refine s_op (o_move (v := (S s)) rfl ?_)
    refine s_op (o_assign (v := (.int .i64 0)) rfl ?_)
    refine s_op (o_assign (v := (S s)) rfl ?_)
    refine s_op (o_assign (v := (.bool false)) rfl ?_)
    refine s_nil ?_
    refine t_norm (hK5 _ _ ?_)
    refine wp_ret ?_
    refine t_ret (c_ret3 Tryz.results106  (v := (.int .i64 0)) rfl (x := (S s)) rfl (y := (.bool false)) rfl ?_)
    exact ⟨by rw [takeS_no (by first | exact .inl (by omega) | exact .inr (.inl (by omega)) | exact .inr (.inr ⟨by omega, 0, by simpa using rfl, by omega⟩))], hH⟩
  · -- not: (m : Int) < 1
    refine s_on 11 rfl (congrArg Value.bool (decide_eq_false h4)) (o_move (v := (.int .i64 (m : Int))) rfl ?_)
    refine s_on 11 rfl (congrArg Value.bool (decide_eq_false h4)) (o_gtr (a := (m : Int)) (b := 8) rfl rfl ?_)
    refine s_op (o_pick_f (u := (.bool (decide (8 < (m : Int))))) ((rfl : _ = _).trans (congrArg Value.bool (decide_eq_false h4))) rfl ?_)
    refine s_op (o_move (v := (.bool (decide (8 < (m : Int))))) rfl ?_)
    by_cases h6 : 8 < (m : Int)
    · -- 8 < (m : Int)
      refine s_off (b' := true) 15 rfl (congrArg Value.bool (decide_eq_true h6)) rfl ?_
      refine s_off (b' := true) 15 rfl (congrArg Value.bool (decide_eq_true h6)) rfl ?_
      refine s_off (b' := true) 15 rfl (congrArg Value.bool (decide_eq_true h6)) rfl ?_
      refine s_off (b' := true) 15 rfl (congrArg Value.bool (decide_eq_true h6)) rfl ?_
      refine s_op (o_pick_t (u := (.bool true)) ((rfl : _ = _).trans (congrArg Value.bool (decide_eq_true h6))) rfl ?_)
      refine s_op (o_move (v := (.bool true)) rfl ?_)
      refine s_off (b' := true) 21 rfl rfl rfl ?_
      refine s_off (b' := true) 21 rfl rfl rfl ?_
      refine s_off (b' := true) 21 rfl rfl rfl ?_
      refine s_offu 24 rfl rfl ?_
      refine s_offu 24 rfl rfl ?_
      refine s_offu 24 rfl rfl ?_
      refine s_off (b' := true) 21 rfl rfl rfl ?_
      refine s_op (o_pick_t (u := (.bool true)) rfl rfl ?_)
      refine s_nil ?_
      refine t_norm (hK3 _ _ ?_)
      refine c_true rfl rfl ?_
      refine wp_seq_k fun K7 hK7 => ?_
      refine c_region ?_
      refine s_op (o_move (v := (S s)) rfl ?_)
      refine s_op (o_assign (v := (.int .i64 0)) rfl ?_)
      refine s_op (o_assign (v := (S s)) rfl ?_)
      refine s_op (o_assign (v := (.bool false)) rfl ?_)
      refine s_nil ?_
      refine t_norm (hK7 _ _ ?_)
      refine wp_ret ?_
      refine t_ret (c_ret3 Tryz.results106  (v := (.int .i64 0)) rfl (x := (S s)) rfl (y := (.bool false)) rfl ?_)
      exact ⟨by rw [takeS_no (by first | exact .inl (by omega) | exact .inr (.inl (by omega)) | exact .inr (.inr ⟨by omega, 0, by simpa using rfl, by omega⟩))], hH⟩
    · -- not: 8 < (m : Int)
      refine s_on 15 rfl (congrArg Value.bool (decide_eq_false h6)) (o_move (v := (S s)) rfl ?_)
      refine s_on 15 rfl (congrArg Value.bool (decide_eq_false h6)) (o_slen Tryz.underlying9 rfl ?_)
      refine s_on 15 rfl (congrArg Value.bool (decide_eq_false h6)) (o_move (v := (.int .i64 (m : Int))) rfl ?_)
      refine s_on 15 rfl (congrArg Value.bool (decide_eq_false h6)) (o_lss (a := (s.length : Int)) (b := (m : Int)) rfl rfl ?_)
      refine s_op (o_pick_f (u := (.bool (decide ((s.length : Int) < (m : Int))))) ((rfl : _ = _).trans (congrArg Value.bool (decide_eq_false h6))) rfl ?_)
      refine s_op (o_move (v := (.bool (decide ((s.length : Int) < (m : Int))))) rfl ?_)
      by_cases h8 : (s.length : Int) < (m : Int)
      · -- (s.length : Int) < (m : Int)
        refine s_off (b' := true) 21 rfl (congrArg Value.bool (decide_eq_true h8)) rfl ?_
        refine s_off (b' := true) 21 rfl (congrArg Value.bool (decide_eq_true h8)) rfl ?_
        refine s_off (b' := true) 21 rfl (congrArg Value.bool (decide_eq_true h8)) rfl ?_
        refine s_offu 24 rfl rfl ?_
        refine s_offu 24 rfl rfl ?_
        refine s_offu 24 rfl rfl ?_
        refine s_off (b' := true) 21 rfl (congrArg Value.bool (decide_eq_true h8)) rfl ?_
        refine s_op (o_pick_t (u := (.bool true)) ((rfl : _ = _).trans (congrArg Value.bool (decide_eq_true h8))) rfl ?_)
        refine s_nil ?_
        refine t_norm (hK3 _ _ ?_)
        refine c_true rfl rfl ?_
        refine wp_seq_k fun K9 hK9 => ?_
        refine c_region ?_
        refine s_op (o_move (v := (S s)) rfl ?_)
        refine s_op (o_assign (v := (.int .i64 0)) rfl ?_)
        refine s_op (o_assign (v := (S s)) rfl ?_)
        refine s_op (o_assign (v := (.bool false)) rfl ?_)
        refine s_nil ?_
        refine t_norm (hK9 _ _ ?_)
        refine wp_ret ?_
        refine t_ret (c_ret3 Tryz.results106  (v := (.int .i64 0)) rfl (x := (S s)) rfl (y := (.bool false)) rfl ?_)
        exact ⟨by rw [takeS_no (by first | exact .inl (by omega) | exact .inr (.inl (by omega)) | exact .inr (.inr ⟨by omega, 0, by simpa using rfl, by omega⟩))], hH⟩
      · -- not: (s.length : Int) < (m : Int)
        refine s_on 21 rfl (congrArg Value.bool (decide_eq_false h8)) (o_move (v := (.int .i64 (m : Int))) rfl ?_)
        refine s_on 21 rfl (congrArg Value.bool (decide_eq_false h8)) (o_eql (a := (m : Int)) (b := 8) rfl rfl ?_)
        refine s_on 21 rfl (congrArg Value.bool (decide_eq_false h8)) (o_move (v := (.bool (decide ((m : Int) = 8)))) rfl ?_)
        by_cases h10 : (m : Int) = 8
        · -- (m : Int) = 8
          refine s_on 24 rfl (congrArg Value.bool (decide_eq_true h10)) (o_move (v := (S s)) rfl ?_)
          obtain ⟨c11, hx12⟩ : ∃ x_, s[((0 : Int)).toNat]? = some x_ := get_some (by omega)
          have c11_lt := c11.toNat_lt
          refine s_on 24 rfl (congrArg Value.bool (decide_eq_true h10)) (o_sidx Tryz.underlying9 rfl rfl (by omega) hx12 ?_)
          refine s_on 24 rfl (congrArg Value.bool (decide_eq_true h10)) (o_gtr (a := (c11.toNat : Int)) (b := 127) rfl rfl ?_)
          refine s_on 21 rfl (congrArg Value.bool (decide_eq_false h8)) (o_pick_t (u := (.bool (decide (127 < (c11.toNat : Int))))) ((rfl : _ = _).trans (congrArg Value.bool (decide_eq_true h10))) rfl ?_)
          refine s_op (o_pick_f (u := (.bool (decide (127 < (c11.toNat : Int))))) ((rfl : _ = _).trans (congrArg Value.bool (decide_eq_false h8))) rfl ?_)
          refine s_nil ?_
          refine t_norm (hK3 _ _ ?_)
          refine c_cond rfl (fun h13 => ?_) (fun h13 => ?_)
          · -- 127 < (c11.toNat : Int)
            refine wp_seq_k fun K14 hK14 => ?_
            refine c_region ?_
            refine s_op (o_move (v := (S s)) rfl ?_)
            refine s_op (o_assign (v := (.int .i64 0)) rfl ?_)
            refine s_op (o_assign (v := (S s)) rfl ?_)
            refine s_op (o_assign (v := (.bool false)) rfl ?_)
            refine s_nil ?_
            refine t_norm (hK14 _ _ ?_)
            refine wp_ret ?_
            refine t_ret (c_ret3 Tryz.results106  (v := (.int .i64 0)) rfl (x := (S s)) rfl (y := (.bool false)) rfl ?_)
            exact ⟨by rw [takeS_no (by first | exact .inl (by omega) | exact .inr (.inl (by omega)) | exact .inr (.inr ⟨by omega, c11, by simpa using hx12, by omega⟩))], hH⟩
          · -- not: 127 < (c11.toNat : Int)
            refine wp_skip ?_
            refine t_norm (hK2 _ _ ?_)
            refine wp_seq_k fun K15 hK15 => ?_
            refine c_region ?_
            refine s_op (o_assign (v := (.int .i64 0)) rfl ?_)
            refine s_nil ?_
            refine t_norm (hK15 _ _ ?_)
            refine wp_seq_k fun K16 hK16 => ?_
            refine wp_seq_k fun K17 hK17 => ?_
            refine c_region ?_
            refine s_op (o_move (v := (.int .i64 (m : Int))) rfl ?_)
            refine s_op (o_move (v := (.int .i64 0)) rfl ?_)
            refine s_nil ?_
            refine t_norm (hK17 _ _ ?_)
            refine wp_block ?_
            let I19 : Nat → (Nat → Value) → World → Prop := fun n__ r__ w__ => ∃ (i : Nat) (y : Int), n__ = m - i ∧ Has E w__ [R] ∧ (i ≤ m) ∧ (y = beVal (s.take i)) ∧ r__ 0 = (S s) ∧ r__ 1 = (.int .i64 (m : Int)) ∧ r__ 4 = (.int .i64 0) ∧ r__ 5 = (S ([] : List UInt8)) ∧ r__ 6 = (.bool false) ∧ r__ 7 = (.int .i64 y) ∧ r__ 29 = (.bool (decide (127 < (c11.toNat : Int)))) ∧ r__ 31 = (.int .i64 (m : Int)) ∧ r__ 32 = (.int .i64 (i : Int))
            refine c_loop I19 _ ⟨0, 0, rfl, hH, Nat.zero_le _, rfl, rfl, rfl, rfl, rfl, rfl, rfl, rfl, rfl, rfl⟩ ?_
            rintro n_ r22 w20 ⟨i, y, rfl, hH21, hi, hy, e18_0, e18_1, e18_4, e18_5, e18_6, e18_7, e18_29, e18_31, e18_32⟩
            have hb0 := beVal_nonneg (s.take i)
            have hb1 : i < m → beVal (s.take i) < 36028797018963968 := fun h => beVal_lt h (by omega) (by omega) (.inr (first_byte (by simpa using hx12) (by omega)))
            refine wp_seq_k fun K23 hK23 => ?_
            refine c_region ?_
            refine s_op (o_lss (a := (i : Int)) (b := (m : Int)) e18_32 e18_31 ?_)
            refine s_nil ?_
            refine t_norm (hK23 _ _ ?_)
            refine wp_seq_k fun K24 hK24 => ?_
            refine c_cond rfl (fun h25 => ?_) (fun h25 => ?_)
            · -- (i : Int) < (m : Int)
              refine wp_skip ?_
              refine t_norm (hK24 _ _ ?_)
              refine wp_seq_k fun K26 hK26 => ?_
              refine wp_block ?_
              refine wp_seq_k fun K27 hK27 => ?_
              refine c_region ?_
              refine s_op (o_move (v := (.int .i64 (i : Int))) e18_32 ?_)
              refine s_op (o_assign (v := (.int .i64 (i : Int))) rfl ?_)
              refine s_nil ?_
              refine t_norm (hK27 _ _ ?_)
              refine c_region ?_
              refine s_op (o_move (v := (.int .i64 y)) e18_7 ?_)
              refine s_op (o_shl (c := y * 256) rfl rfl (by omega) (shl_lit (by omega) (by omega) rfl) ?_)
              refine s_op (o_move (v := (S s)) e18_0 ?_)
              refine s_op (o_move (v := (.int .i64 (i : Int))) rfl ?_)
              obtain ⟨c28, hx29⟩ : ∃ x_, s[((i : Int)).toNat]? = some x_ := get_some (by omega)
              have c28_lt := c28.toNat_lt
              refine s_op (o_sidx Tryz.underlying9 rfl rfl (by omega) hx29 ?_)
              refine s_op (o_conv Tryz.underlying5 Tryz.underlying3 rfl (w_u8 _) ?_)
              refine s_op (o_or (c := y * 256 + (c28.toNat : Int)) rfl rfl (or8 (by omega) (by omega) _) ?_)
              refine s_op (o_assign (v := (.int .i64 (y * 256 + (c28.toNat : Int)))) rfl ?_)
              refine s_nil ?_
              refine b_norm ?_
              refine t_norm (hK26 _ _ ?_)
              refine c_region ?_
              refine s_op (o_add (a := (i : Int)) (b := 1) e18_32 rfl (w64 (by omega) (by omega)) ?_)
              refine s_op (o_move (v := (.int .i64 ((i : Int) + 1))) rfl ?_)
              refine s_nil ?_
              refine t_norm ⟨m - (i + 1), _, rfl, ?_, ?_⟩
              · omega
              · exact ⟨(i + 1), (y * 256 + (c28.toNat : Int)), rfl, hH21, (by omega), (by rw [take_succ_of (by simpa using hx29), beVal_snoc, ← hy]), e18_0, e18_1, e18_4, e18_5, e18_6, rfl, e18_29, e18_31, rfl⟩
            · -- not: (i : Int) < (m : Int)
              refine wp_exit ?_
              refine t_exit (t_exit (x_in (?_)))
              refine t_norm (hK16 _ _ ?_)
              refine wp_seq_k fun K30 hK30 => ?_
              refine Rest.region mixed (by kernel_rfl) ?_
              have hH31 : Has E { w20 with drawn := w20.drawn + 1 } [R] := Has0.drew hH21 _
              refine Rest.phaseA (fun w_ => Has E w_ []) 0 5 5 rfl (by decide) (by kernel_rfl) ?_
              refine a_op 0 rfl (by kernel_rfl) (fun w_ h_ => o_move (v := (.int .i64 y)) e18_7 ⟨rfl, rfl⟩) ?_
              refine a_op 1 rfl (by kernel_rfl) (fun w_ h_ => o_move (v := (S s)) e18_0 ⟨rfl, rfl⟩) ?_
              refine a_op 2 rfl (by kernel_rfl) (fun w_ h_ => o_move (v := (.int .i64 (m : Int))) e18_1 ⟨rfl, rfl⟩) ?_
              refine a_op 3 rfl (by kernel_rfl) (fun w_ h_ => o_ssl_l Tryz.underlying9 rfl rfl (by omega) (by omega) ⟨rfl, rfl⟩) ?_
              refine a_op 4 rfl (by kernel_rfl) (fun w_ h_ => o_assign (v := (.int .i64 y)) rfl ⟨rfl, rfl⟩) ?_
              have hH32 : Has E { w20 with drawn := w20.drawn + 1 } [] := hH31.first 0 rfl
              refine a_done (by kernel_rfl) hH32 ?_
              refine r_op 5 rfl (by kernel_rfl) (o_assign (v := (S (s.drop ((m : Int)).toNat))) rfl ?_)
              refine r_op 6 rfl (by kernel_rfl) (o_assign (v := (.bool true)) rfl ?_)
              refine Rest.done (by kernel_rfl) ?_
              refine t_norm (hK30 _ _ ?_)
              refine wp_ret ?_
              refine c_ret3 Tryz.results106  (v := (.int .i64 y)) rfl (x := (S (s.drop ((m : Int)).toNat))) rfl (y := (.bool true)) rfl ?_
              have e : i = m := by omega
              rw [e] at hy
              exact ⟨by rw [takeS_yes (by omega) (by omega) (by omega) (.inr (first_byte (by simpa using hx12) (by omega))), hy]; rfl, hH31⟩
        · -- not: (m : Int) = 8
          refine s_off (b' := false) 24 rfl (congrArg Value.bool (decide_eq_false h10)) rfl ?_
          refine s_off (b' := false) 24 rfl (congrArg Value.bool (decide_eq_false h10)) rfl ?_
          refine s_off (b' := false) 24 rfl (congrArg Value.bool (decide_eq_false h10)) rfl ?_
          refine s_on 21 rfl (congrArg Value.bool (decide_eq_false h8)) (o_pick_f (u := (.bool false)) ((rfl : _ = _).trans (congrArg Value.bool (decide_eq_false h10))) rfl ?_)
          refine s_op (o_pick_f (u := (.bool false)) ((rfl : _ = _).trans (congrArg Value.bool (decide_eq_false h8))) rfl ?_)
          refine s_nil ?_
          refine t_norm (hK3 _ _ ?_)
          refine c_false rfl rfl ?_
          refine wp_skip ?_
          refine t_norm (hK2 _ _ ?_)
          refine wp_seq_k fun K33 hK33 => ?_
          refine c_region ?_
          refine s_op (o_assign (v := (.int .i64 0)) rfl ?_)
          refine s_nil ?_
          refine t_norm (hK33 _ _ ?_)
          refine wp_seq_k fun K34 hK34 => ?_
          refine wp_seq_k fun K35 hK35 => ?_
          refine c_region ?_
          refine s_op (o_move (v := (.int .i64 (m : Int))) rfl ?_)
          refine s_op (o_move (v := (.int .i64 0)) rfl ?_)
          refine s_nil ?_
          refine t_norm (hK35 _ _ ?_)
          refine wp_block ?_
          let I37 : Nat → (Nat → Value) → World → Prop := fun n__ r__ w__ => ∃ (i : Nat) (y : Int), n__ = m - i ∧ Has E w__ [R] ∧ (i ≤ m) ∧ (y = beVal (s.take i)) ∧ r__ 0 = (S s) ∧ r__ 1 = (.int .i64 (m : Int)) ∧ r__ 4 = (.int .i64 0) ∧ r__ 5 = (S ([] : List UInt8)) ∧ r__ 6 = (.bool false) ∧ r__ 7 = (.int .i64 y) ∧ r__ 29 = (.bool false) ∧ r__ 31 = (.int .i64 (m : Int)) ∧ r__ 32 = (.int .i64 (i : Int))
          refine c_loop I37 _ ⟨0, 0, rfl, hH, Nat.zero_le _, rfl, rfl, rfl, rfl, rfl, rfl, rfl, rfl, rfl, rfl⟩ ?_
          rintro n_ r40 w38 ⟨i, y, rfl, hH39, hi, hy, e36_0, e36_1, e36_4, e36_5, e36_6, e36_7, e36_29, e36_31, e36_32⟩
          have hb0 := beVal_nonneg (s.take i)
          have hb1 : i < m → beVal (s.take i) < 36028797018963968 := fun h => beVal_lt h (by omega) (by omega) (.inl (by omega))
          refine wp_seq_k fun K41 hK41 => ?_
          refine c_region ?_
          refine s_op (o_lss (a := (i : Int)) (b := (m : Int)) e36_32 e36_31 ?_)
          refine s_nil ?_
          refine t_norm (hK41 _ _ ?_)
          refine wp_seq_k fun K42 hK42 => ?_
          refine c_cond rfl (fun h43 => ?_) (fun h43 => ?_)
          · -- (i : Int) < (m : Int)
            refine wp_skip ?_
            refine t_norm (hK42 _ _ ?_)
            refine wp_seq_k fun K44 hK44 => ?_
            refine wp_block ?_
            refine wp_seq_k fun K45 hK45 => ?_
            refine c_region ?_
            refine s_op (o_move (v := (.int .i64 (i : Int))) e36_32 ?_)
            refine s_op (o_assign (v := (.int .i64 (i : Int))) rfl ?_)
            refine s_nil ?_
            refine t_norm (hK45 _ _ ?_)
            refine c_region ?_
            refine s_op (o_move (v := (.int .i64 y)) e36_7 ?_)
            refine s_op (o_shl (c := y * 256) rfl rfl (by omega) (shl_lit (by omega) (by omega) rfl) ?_)
            refine s_op (o_move (v := (S s)) e36_0 ?_)
            refine s_op (o_move (v := (.int .i64 (i : Int))) rfl ?_)
            obtain ⟨c46, hx47⟩ : ∃ x_, s[((i : Int)).toNat]? = some x_ := get_some (by omega)
            have c46_lt := c46.toNat_lt
            refine s_op (o_sidx Tryz.underlying9 rfl rfl (by omega) hx47 ?_)
            refine s_op (o_conv Tryz.underlying5 Tryz.underlying3 rfl (w_u8 _) ?_)
            refine s_op (o_or (c := y * 256 + (c46.toNat : Int)) rfl rfl (or8 (by omega) (by omega) _) ?_)
            refine s_op (o_assign (v := (.int .i64 (y * 256 + (c46.toNat : Int)))) rfl ?_)
            refine s_nil ?_
            refine b_norm ?_
            refine t_norm (hK44 _ _ ?_)
            refine c_region ?_
            refine s_op (o_add (a := (i : Int)) (b := 1) e36_32 rfl (w64 (by omega) (by omega)) ?_)
            refine s_op (o_move (v := (.int .i64 ((i : Int) + 1))) rfl ?_)
            refine s_nil ?_
            refine t_norm ⟨m - (i + 1), _, rfl, ?_, ?_⟩
            · omega
            · exact ⟨(i + 1), (y * 256 + (c46.toNat : Int)), rfl, hH39, (by omega), (by rw [take_succ_of (by simpa using hx47), beVal_snoc, ← hy]), e36_0, e36_1, e36_4, e36_5, e36_6, rfl, e36_29, e36_31, rfl⟩
          · -- not: (i : Int) < (m : Int)
            refine wp_exit ?_
            refine t_exit (t_exit (x_in (?_)))
            refine t_norm (hK34 _ _ ?_)
            refine wp_seq_k fun K48 hK48 => ?_
            refine Rest.region mixed (by kernel_rfl) ?_
            have hH49 : Has E { w38 with drawn := w38.drawn + 1 } [R] := Has0.drew hH39 _
            refine Rest.phaseA (fun w_ => Has E w_ []) 0 5 5 rfl (by decide) (by kernel_rfl) ?_
            refine a_op 0 rfl (by kernel_rfl) (fun w_ h_ => o_move (v := (.int .i64 y)) e36_7 ⟨rfl, rfl⟩) ?_
            refine a_op 1 rfl (by kernel_rfl) (fun w_ h_ => o_move (v := (S s)) e36_0 ⟨rfl, rfl⟩) ?_
            refine a_op 2 rfl (by kernel_rfl) (fun w_ h_ => o_move (v := (.int .i64 (m : Int))) e36_1 ⟨rfl, rfl⟩) ?_
            refine a_op 3 rfl (by kernel_rfl) (fun w_ h_ => o_ssl_l Tryz.underlying9 rfl rfl (by omega) (by omega) ⟨rfl, rfl⟩) ?_
            refine a_op 4 rfl (by kernel_rfl) (fun w_ h_ => o_assign (v := (.int .i64 y)) rfl ⟨rfl, rfl⟩) ?_
            have hH50 : Has E { w38 with drawn := w38.drawn + 1 } [] := hH49.first 0 rfl
            refine a_done (by kernel_rfl) hH50 ?_
            refine r_op 5 rfl (by kernel_rfl) (o_assign (v := (S (s.drop ((m : Int)).toNat))) rfl ?_)
            refine r_op 6 rfl (by kernel_rfl) (o_assign (v := (.bool true)) rfl ?_)
            refine Rest.done (by kernel_rfl) ?_
            refine t_norm (hK48 _ _ ?_)
            refine wp_ret ?_
            refine c_ret3 Tryz.results106  (v := (.int .i64 y)) rfl (x := (S (s.drop ((m : Int)).toNat))) rfl (y := (.bool true)) rfl ?_
            have e : i = m := by omega
            rw [e] at hy
            exact ⟨by rw [takeS_yes (by omega) (by omega) (by omega) (.inl (by omega)), hy]; rfl, hH49⟩
end Go.Q
namespace Go.Q
section rounds
variable {P : Program} {Q : Exit → Act → World → Prop} {w : World} {N : Nat} {r : Nat → Value} {c : Code}
theorem u_loop (n : Nat) (h : Code.rounds P c Q n (fr N r) w) : (Code.loop c).wp P Q (fr N r) w := wp_loop_rounds n h
theorem u_round {m : Nat} (h : c.wp P (Exit.then (Code.rounds P c Q m) Q) (fr N r) w) : Code.rounds P c Q (m + 1) (fr N r) w := h
end rounds
end Go.Q
namespace Go.Q
open Go.Proofs
set_option linter.unusedVariables false
set_option maxRecDepth 100000
attribute [local irreducible] wpList OK Code.wp
set_option maxHeartbeats 4000000 in
theorem tset_c {E w : World} {R sg : List Hp} {pb db tb : Nat} {d : Dv} {n : Int} (hH : Has E w [sg, [Hp.one pb (.cells #[(.bool d.p.off), (.bool d.p.armed), (.int .i64 d.p.left), (.int .i64 d.p.uses)] 101 (0, 0))], [Hp.one tb (.cells #[(.pointer (some ⟨db, 0, none⟩)), (.int .i64 n)] 98 (0, 0))], R]) (hd : DevAt pb sg db d.la d.lo) {k : Nat} (hf : Few d.p k) (hk : k ≤ 900000) (hlk : LoOk d.lo d.la.length) (h4 : d.la.length ≤ 4096) {x : Int} (hx : 0 ≤ x ∧ x ≤ 4096) {s : Bs} (hs : s.length = 256) :
    Calls Tryz.prog 97 #[(.pointer (some ⟨tb, 0, none⟩)), (.int .i64 x), (S s)] w fun e w' => ∃ sg', e = .returned (.int .i64 (wrsy d (setT x s)).1) ∧ DevAt pb sg' db (wrsy d (setT x s)).2.la (wrsy d (setT x s)).2.lo ∧ Has E w' [sg', [Hp.one pb (.cells #[(.bool ((wrsy d (setT x s)).2).p.off), (.bool ((wrsy d (setT x s)).2).p.armed), (.int .i64 ((wrsy d (setT x s)).2).p.left), (.int .i64 ((wrsy d (setT x s)).2).p.uses)] 101 (0, 0))], [Hp.one tb (.cells #[(.pointer (some ⟨db, 0, none⟩)), (.int .i64 n)] 98 (0, 0))], R] := by
  refine c_enter (args := [(.pointer (some ⟨tb, 0, none⟩)), (.int .i64 x), (S s)]) Tryz.func97 rfl Tryz.ntmps97 (by simp) ?_
  refine wp_seq_k fun K1 hK1 => ?_
  refine c_region ?_
  refine s_op (o_assign (v := (.int .i64 0)) rfl ?_)
  refine s_nil ?_
  refine t_norm (hK1 _ _ ?_)
  refine wp_seq_k fun K2 hK2 => ?_
  refine wp_seq_k fun K3 hK3 => ?_
  refine c_region ?_
  refine s_op (o_move (v := (.int .i64 0)) rfl ?_)
  refine s_nil ?_
  refine t_norm (hK3 _ _ ?_)
  refine wp_block ?_
  refine u_loop 5 (u_round ?_)
  refine wp_seq_k fun K4 hK4 => ?_
  refine c_region ?_
  refine s_op (o_lss (a := 0) (b := 4) rfl rfl ?_)
  refine s_nil ?_
  refine t_norm (hK4 _ _ ?_)
  refine wp_seq_k fun K5 hK5 => ?_
  refine c_true rfl rfl ?_
  refine wp_skip ?_
  refine t_norm (hK5 _ _ ?_)
  refine wp_seq_k fun K6 hK6 => ?_
  refine wp_block ?_
  refine wp_seq_k fun K7 hK7 => ?_
  refine c_region ?_
  refine s_op (o_move (v := (.int .i64 0)) rfl ?_)
  refine s_op (o_assign (v := (.int .i64 0)) rfl ?_)
  refine s_nil ?_
  refine t_norm (hK7 _ _ ?_)
  refine wp_seq_k fun K8 hK8 => ?_
  refine Rest.region mixed (by kernel_rfl) ?_
  have hH9 : Has E { w with drawn := w.drawn + 1 } [sg, [Hp.one pb (.cells #[(.bool d.p.off), (.bool d.p.armed), (.int .i64 d.p.left), (.int .i64 d.p.uses)] 101 (0, 0))], [Hp.one tb (.cells #[(.pointer (some ⟨db, 0, none⟩)), (.int .i64 n)] 98 (0, 0))], R] := Has0.drew hH _
  refine Rest.phaseA (fun w_ => Has E w_ [[Hp.one tb (.cells #[(.pointer (some ⟨db, 0, none⟩)), (.int .i64 n)] 98 (0, 0))]]) 0 15 15 rfl (by decide) (by kernel_rfl) ?_
  refine a_op 0 rfl (by kernel_rfl) (fun w_ h_ => o_move (v := (.pointer (some ⟨tb, 0, none⟩))) rfl ⟨rfl, rfl⟩) ?_
  refine a_op 1 rfl (by kernel_rfl) (fun w_ h_ => o_nilCheck rfl ⟨rfl, rfl⟩) ?_
  refine a_op 2 rfl (by kernel_rfl) (fun w_ h_ => o_fieldAddr (k := 0) (fun _ => by kernel_rfl) rfl ⟨rfl, rfl⟩) ?_
  refine a_op 3 rfl (by kernel_rfl) (fun w_ h_ => o_load1 (v := (.pointer (some ⟨db, 0, none⟩))) Tryz.underlying29 rfl rfl h_ (seg_sub 0 rfl) (CellsAt.one rfl) ⟨rfl, rfl⟩) ?_
  refine a_op 4 rfl (by kernel_rfl) (fun w_ h_ => o_move (v := (.int .i64 x)) rfl ⟨rfl, rfl⟩) ?_
  refine a_op 5 rfl (by kernel_rfl) (fun w_ h_ => o_move (v := (.int .i64 0)) rfl ⟨rfl, rfl⟩) ?_
  refine a_op 6 rfl (by kernel_rfl) (fun w_ h_ => o_add (a := x) (b := 0) (c := x) rfl rfl (by rw [Int.add_zero]; exact w64 (by omega) (by omega)) ⟨rfl, rfl⟩) ?_
  refine a_op 7 rfl (by kernel_rfl) (fun w_ h_ => o_move (v := (S s)) rfl ⟨rfl, rfl⟩) ?_
  refine a_op 8 rfl (by kernel_rfl) (fun w_ h_ => o_move (v := (.int .i64 0)) rfl ⟨rfl, rfl⟩) ?_
  refine a_op 9 rfl (by kernel_rfl) (fun w_ h_ => o_mul (a := 0) (b := 64) (c := 0) rfl rfl (by decide) ⟨rfl, rfl⟩) ?_
  refine a_op 10 rfl (by kernel_rfl) (fun w_ h_ => o_move (v := (.int .i64 0)) rfl ⟨rfl, rfl⟩) ?_
  refine a_op 11 rfl (by kernel_rfl) (fun w_ h_ => o_add (a := 0) (b := 1) (c := 1) rfl rfl (by decide) ⟨rfl, rfl⟩) ?_
  refine a_op 12 rfl (by kernel_rfl) (fun w_ h_ => o_mul (a := 1) (b := 64) (c := 64) rfl rfl (by decide) ⟨rfl, rfl⟩) ?_
  refine a_op 13 rfl (by kernel_rfl) (fun w_ h_ => o_ssl Tryz.underlying9 rfl rfl rfl (by omega) (by omega) (by omega) ⟨rfl, rfl⟩) ?_
  have hH10 : Has E { w with drawn := w.drawn + 1 } [[Hp.one tb (.cells #[(.pointer (some ⟨db, 0, none⟩)), (.int .i64 n)] 98 (0, 0))]] := (hH9.front 2 rfl).first 1 rfl
  refine a_w 14 rfl (by kernel_rfl) hH10 (o_buildSlice (ps := #[(0, (S ((s.take 64).drop 0)))]) (cells := #[(S ((s.take 64).drop 0))]) Tryz.underlying102 ti9 (by decide) (parts1 rfl) (by kernel_rfl) hH9 fun b11 w12 hH13 => ?_)
  have hH14 : Has E w12 [[Hp.one tb (.cells #[(.pointer (some ⟨db, 0, none⟩)), (.int .i64 n)] 98 (0, 0))]] := (hH13.front 3 rfl).first 1 rfl
  refine a_done (by kernel_rfl) hH14 ?_
  refine r_op 15 rfl (by kernel_rfl) (o_callf (vs := #[(.pointer (some ⟨db, 0, none⟩)), (.int .i64 x), (.slice (some ⟨b11, 0, none⟩) 1 1)]) ca52 rfl (args3 rfl rfl rfl) (dv_wr (d := d) ((hH13.front 2 rfl).front 2 rfl).all2 hd (hf.ok (by omega)) h4 x (l := [(s.take 64).drop 0]) ((sl_lit (f := sV) (l := [(s.take 64).drop 0]) (g := (0, 0)) (T := 9) rfl rfl (by simp)).mono (seg_sub 0 rfl)) (s := (s.take 64).drop 0) (by simp) (by simp) (by first | (simp only [List.length_drop, List.length_take]; omega) | omega | (simp; done))) ?_)
  rintro _ w19 ⟨sg15, rfl, hd16, hX17⟩
  refine ⟨_, rfl, ?_⟩
  have hH18 : Has E w19 [sg15, [Hp.one pb (.cells #[(.bool (d.wr x ((s.take 64).drop 0)).p.off), (.bool (d.wr x ((s.take 64).drop 0)).p.armed), (.int .i64 (d.wr x ((s.take 64).drop 0)).p.left), (.int .i64 (d.wr x ((s.take 64).drop 0)).p.uses)] 101 (0, 0))], [Hp.one b11 (.cells #[(S ((s.take 64).drop 0))] 9 (0, 0))], [Hp.one tb (.cells #[(.pointer (some ⟨db, 0, none⟩)), (.int .i64 n)] 98 (0, 0))], R] := hX17.of_all2
  refine r_op 16 rfl (by kernel_rfl) (o_assign (v := (.int .i64 (d.wrE x ((s.take 64).drop 0)))) rfl ?_)
  refine Rest.done (by kernel_rfl) ?_
  refine t_norm (hK8 _ _ ?_)
  refine wp_seq_k fun K20 hK20 => ?_
  refine c_region ?_
  refine s_op (o_move (v := (.int .i64 (d.wrE x ((s.take 64).drop 0)))) rfl ?_)
  refine s_op (o_neq (a := d.wrE x ((s.take 64).drop 0)) (b := 0) rfl rfl ?_)
  refine s_nil ?_
  refine t_norm (hK20 _ _ ?_)
  refine c_cond rfl (fun h21 => ?_) (fun h21 => ?_)
  · -- d.wrE x ((s.take 64).drop 0) ≠ 0
    refine wp_seq_k fun K22 hK22 => ?_
    refine c_region ?_
    refine s_op (o_move (v := (.int .i64 (d.wrE x ((s.take 64).drop 0)))) rfl ?_)
    refine s_op (o_assign (v := (.int .i64 (d.wrE x ((s.take 64).drop 0)))) rfl ?_)
    refine s_nil ?_
    refine t_norm (hK22 _ _ ?_)
    refine wp_ret ?_
    refine b_ret (t_ret (t_ret (b_ret (t_ret (c_ret1 Tryz.results97  (v := (.int .i64 (d.wrE x ((s.take 64).drop 0)))) rfl ?_)))))
    have hH23 : Has E w19 [sg15, [Hp.one pb (.cells #[(.bool (d.wr x ((s.take 64).drop 0)).p.off), (.bool (d.wr x ((s.take 64).drop 0)).p.armed), (.int .i64 (d.wr x ((s.take 64).drop 0)).p.left), (.int .i64 (d.wr x ((s.take 64).drop 0)).p.uses)] 101 (0, 0))], [Hp.one tb (.cells #[(.pointer (some ⟨db, 0, none⟩)), (.int .i64 n)] 98 (0, 0))], R] := ((((hH18.front 4 rfl).front 4 rfl).front 3 rfl).front 3 rfl).first 4 rfl
    have hE_ : (wrsy d (setT x s)) = (d.wrE x ((s.take 64).drop 0), (d.wr x ((s.take 64).drop 0))) := by show wrsy d [(x, (s.take 64).drop 0), (x + 1, (s.take 128).drop 64), (x + 2, (s.take 192).drop 128), (x + 3, (s.take 256).drop 192)] = _; rw [wrsy_stop h21]
    exact ⟨_, by rw [hE_], by rw [hE_]; exact hd16, by rw [hE_]; exact hH23⟩
  · -- not: d.wrE x ((s.take 64).drop 0) ≠ 0
    refine wp_skip ?_
    refine b_norm ?_
    refine t_norm (hK6 _ _ ?_)
    refine c_region ?_
    refine s_op (o_add (a := 0) (b := 1) (c := 1) rfl rfl (by decide) ?_)
    refine s_op (o_move (v := (.int .i64 1)) rfl ?_)
    refine s_nil ?_
    refine t_norm (u_round ?_)
    refine wp_seq_k fun K24 hK24 => ?_
    refine c_region ?_
    refine s_op (o_lss (a := 1) (b := 4) rfl rfl ?_)
    refine s_nil ?_
    refine t_norm (hK24 _ _ ?_)
    refine wp_seq_k fun K25 hK25 => ?_
    refine c_true rfl rfl ?_
    refine wp_skip ?_
    refine t_norm (hK25 _ _ ?_)
    refine wp_seq_k fun K26 hK26 => ?_
    refine wp_block ?_
    refine wp_seq_k fun K27 hK27 => ?_
    refine c_region ?_
    refine s_op (o_move (v := (.int .i64 1)) rfl ?_)
    refine s_op (o_assign (v := (.int .i64 1)) rfl ?_)
    refine s_nil ?_
    refine t_norm (hK27 _ _ ?_)
    refine wp_seq_k fun K28 hK28 => ?_
    refine Rest.region mixed (by kernel_rfl) ?_
    have hH29 : Has E { w19 with drawn := w19.drawn + 1 } [sg15, [Hp.one pb (.cells #[(.bool (d.wr x ((s.take 64).drop 0)).p.off), (.bool (d.wr x ((s.take 64).drop 0)).p.armed), (.int .i64 (d.wr x ((s.take 64).drop 0)).p.left), (.int .i64 (d.wr x ((s.take 64).drop 0)).p.uses)] 101 (0, 0))], [Hp.one b11 (.cells #[(S ((s.take 64).drop 0))] 9 (0, 0))], [Hp.one tb (.cells #[(.pointer (some ⟨db, 0, none⟩)), (.int .i64 n)] 98 (0, 0))], R] := Has0.drew hH18 _
    refine Rest.phaseA (fun w_ => Has E w_ [[Hp.one tb (.cells #[(.pointer (some ⟨db, 0, none⟩)), (.int .i64 n)] 98 (0, 0))]]) 0 15 15 rfl (by decide) (by kernel_rfl) ?_
    refine a_op 0 rfl (by kernel_rfl) (fun w_ h_ => o_move (v := (.pointer (some ⟨tb, 0, none⟩))) rfl ⟨rfl, rfl⟩) ?_
    refine a_op 1 rfl (by kernel_rfl) (fun w_ h_ => o_nilCheck rfl ⟨rfl, rfl⟩) ?_
    refine a_op 2 rfl (by kernel_rfl) (fun w_ h_ => o_fieldAddr (k := 0) (fun _ => by kernel_rfl) rfl ⟨rfl, rfl⟩) ?_
    refine a_op 3 rfl (by kernel_rfl) (fun w_ h_ => o_load1 (v := (.pointer (some ⟨db, 0, none⟩))) Tryz.underlying29 rfl rfl h_ (seg_sub 0 rfl) (CellsAt.one rfl) ⟨rfl, rfl⟩) ?_
    refine a_op 4 rfl (by kernel_rfl) (fun w_ h_ => o_move (v := (.int .i64 x)) rfl ⟨rfl, rfl⟩) ?_
    refine a_op 5 rfl (by kernel_rfl) (fun w_ h_ => o_move (v := (.int .i64 1)) rfl ⟨rfl, rfl⟩) ?_
    refine a_op 6 rfl (by kernel_rfl) (fun w_ h_ => o_add (a := x) (b := 1) rfl rfl (w64 (by omega) (by omega)) ⟨rfl, rfl⟩) ?_
    refine a_op 7 rfl (by kernel_rfl) (fun w_ h_ => o_move (v := (S s)) rfl ⟨rfl, rfl⟩) ?_
    refine a_op 8 rfl (by kernel_rfl) (fun w_ h_ => o_move (v := (.int .i64 1)) rfl ⟨rfl, rfl⟩) ?_
    refine a_op 9 rfl (by kernel_rfl) (fun w_ h_ => o_mul (a := 1) (b := 64) (c := 64) rfl rfl (by decide) ⟨rfl, rfl⟩) ?_
    refine a_op 10 rfl (by kernel_rfl) (fun w_ h_ => o_move (v := (.int .i64 1)) rfl ⟨rfl, rfl⟩) ?_
    refine a_op 11 rfl (by kernel_rfl) (fun w_ h_ => o_add (a := 1) (b := 1) (c := 2) rfl rfl (by decide) ⟨rfl, rfl⟩) ?_
    refine a_op 12 rfl (by kernel_rfl) (fun w_ h_ => o_mul (a := 2) (b := 64) (c := 128) rfl rfl (by decide) ⟨rfl, rfl⟩) ?_
    refine a_op 13 rfl (by kernel_rfl) (fun w_ h_ => o_ssl Tryz.underlying9 rfl rfl rfl (by omega) (by omega) (by omega) ⟨rfl, rfl⟩) ?_
    have hH30 : Has E { w19 with drawn := w19.drawn + 1 } [[Hp.one tb (.cells #[(.pointer (some ⟨db, 0, none⟩)), (.int .i64 n)] 98 (0, 0))]] := (hH29.front 3 rfl).first 1 rfl
    refine a_w 14 rfl (by kernel_rfl) hH30 (o_buildSlice (ps := #[(0, (S ((s.take 128).drop 64)))]) (cells := #[(S ((s.take 128).drop 64))]) Tryz.underlying102 ti9 (by decide) (parts1 rfl) (by kernel_rfl) hH29 fun b31 w32 hH33 => ?_)
    have hH34 : Has E w32 [[Hp.one tb (.cells #[(.pointer (some ⟨db, 0, none⟩)), (.int .i64 n)] 98 (0, 0))]] := (hH33.front 4 rfl).first 1 rfl
    refine a_done (by kernel_rfl) hH34 ?_
    refine r_op 15 rfl (by kernel_rfl) (o_callf (vs := #[(.pointer (some ⟨db, 0, none⟩)), (.int .i64 (x + 1)), (.slice (some ⟨b31, 0, none⟩) 1 1)]) ca52 rfl (args3 rfl rfl rfl) (dv_wr (d := (d.wr x ((s.take 64).drop 0))) ((hH33.front 2 rfl).front 2 rfl).all2 hd16 (hf.use.ok (by omega)) h4 (x + 1) (l := [(s.take 128).drop 64]) ((sl_lit (f := sV) (l := [(s.take 128).drop 64]) (g := (0, 0)) (T := 9) rfl rfl (by simp)).mono (seg_sub 0 rfl)) (s := (s.take 128).drop 64) (by simp) (by simp) (by first | (simp only [List.length_drop, List.length_take]; omega) | omega | (simp; done))) ?_)
    rintro _ w39 ⟨sg35, rfl, hd36, hX37⟩
    refine ⟨_, rfl, ?_⟩
    have hH38 : Has E w39 [sg35, [Hp.one pb (.cells #[(.bool ((d.wr x ((s.take 64).drop 0)).wr (x + 1) ((s.take 128).drop 64)).p.off), (.bool ((d.wr x ((s.take 64).drop 0)).wr (x + 1) ((s.take 128).drop 64)).p.armed), (.int .i64 ((d.wr x ((s.take 64).drop 0)).wr (x + 1) ((s.take 128).drop 64)).p.left), (.int .i64 ((d.wr x ((s.take 64).drop 0)).wr (x + 1) ((s.take 128).drop 64)).p.uses)] 101 (0, 0))], [Hp.one b31 (.cells #[(S ((s.take 128).drop 64))] 9 (0, 0))], [Hp.one b11 (.cells #[(S ((s.take 64).drop 0))] 9 (0, 0))], [Hp.one tb (.cells #[(.pointer (some ⟨db, 0, none⟩)), (.int .i64 n)] 98 (0, 0))], R] := hX37.of_all2
    refine r_op 16 rfl (by kernel_rfl) (o_assign (v := (.int .i64 ((d.wr x ((s.take 64).drop 0)).wrE (x + 1) ((s.take 128).drop 64)))) rfl ?_)
    refine Rest.done (by kernel_rfl) ?_
    refine t_norm (hK28 _ _ ?_)
    refine wp_seq_k fun K40 hK40 => ?_
    refine c_region ?_
    refine s_op (o_move (v := (.int .i64 ((d.wr x ((s.take 64).drop 0)).wrE (x + 1) ((s.take 128).drop 64)))) rfl ?_)
    refine s_op (o_neq (a := (d.wr x ((s.take 64).drop 0)).wrE (x + 1) ((s.take 128).drop 64)) (b := 0) rfl rfl ?_)
    refine s_nil ?_
    refine t_norm (hK40 _ _ ?_)
    refine c_cond rfl (fun h41 => ?_) (fun h41 => ?_)
    · -- (d.wr x ((s.take 64).drop 0)).wrE (x + 1) ((s.take 128).drop 64) ≠ 0
      refine wp_seq_k fun K42 hK42 => ?_
      refine c_region ?_
      refine s_op (o_move (v := (.int .i64 ((d.wr x ((s.take 64).drop 0)).wrE (x + 1) ((s.take 128).drop 64)))) rfl ?_)
      refine s_op (o_assign (v := (.int .i64 ((d.wr x ((s.take 64).drop 0)).wrE (x + 1) ((s.take 128).drop 64)))) rfl ?_)
      refine s_nil ?_
      refine t_norm (hK42 _ _ ?_)
      refine wp_ret ?_
      refine b_ret (t_ret (t_ret (b_ret (t_ret (c_ret1 Tryz.results97  (v := (.int .i64 ((d.wr x ((s.take 64).drop 0)).wrE (x + 1) ((s.take 128).drop 64)))) rfl ?_)))))
      have hH43 : Has E w39 [sg35, [Hp.one pb (.cells #[(.bool ((d.wr x ((s.take 64).drop 0)).wr (x + 1) ((s.take 128).drop 64)).p.off), (.bool ((d.wr x ((s.take 64).drop 0)).wr (x + 1) ((s.take 128).drop 64)).p.armed), (.int .i64 ((d.wr x ((s.take 64).drop 0)).wr (x + 1) ((s.take 128).drop 64)).p.left), (.int .i64 ((d.wr x ((s.take 64).drop 0)).wr (x + 1) ((s.take 128).drop 64)).p.uses)] 101 (0, 0))], [Hp.one tb (.cells #[(.pointer (some ⟨db, 0, none⟩)), (.int .i64 n)] 98 (0, 0))], R] := ((((hH38.front 5 rfl).front 5 rfl).front 3 rfl).front 3 rfl).first 4 rfl
      have hE_ : (wrsy d (setT x s)) = ((d.wr x ((s.take 64).drop 0)).wrE (x + 1) ((s.take 128).drop 64), ((d.wr x ((s.take 64).drop 0)).wr (x + 1) ((s.take 128).drop 64))) := by show wrsy d [(x, (s.take 64).drop 0), (x + 1, (s.take 128).drop 64), (x + 2, (s.take 192).drop 128), (x + 3, (s.take 256).drop 192)] = _; rw [wrsy_go (Classical.not_not.1 h21), wrsy_stop h41]
      exact ⟨_, by rw [hE_], by rw [hE_]; exact hd36, by rw [hE_]; exact hH43⟩
    · -- not: (d.wr x ((s.take 64).drop 0)).wrE (x + 1) ((s.take 128).drop 64) ≠ 0
      refine wp_skip ?_
      refine b_norm ?_
      refine t_norm (hK26 _ _ ?_)
      refine c_region ?_
      refine s_op (o_add (a := 1) (b := 1) (c := 2) rfl rfl (by decide) ?_)
      refine s_op (o_move (v := (.int .i64 2)) rfl ?_)
      refine s_nil ?_
      refine t_norm (u_round ?_)
      refine wp_seq_k fun K44 hK44 => ?_
      refine c_region ?_
      refine s_op (o_lss (a := 2) (b := 4) rfl rfl ?_)
      refine s_nil ?_
      refine t_norm (hK44 _ _ ?_)
      refine wp_seq_k fun K45 hK45 => ?_
      refine c_true rfl rfl ?_
      refine wp_skip ?_
      refine t_norm (hK45 _ _ ?_)
      refine wp_seq_k fun K46 hK46 => ?_
      refine wp_block ?_
      refine wp_seq_k fun K47 hK47 => ?_
      refine c_region ?_
      refine s_op (o_move (v := (.int .i64 2)) rfl ?_)
      refine s_op (o_assign (v := (.int .i64 2)) rfl ?_)
      refine s_nil ?_
      refine t_norm (hK47 _ _ ?_)
      refine wp_seq_k fun K48 hK48 => ?_
      refine Rest.region mixed (by kernel_rfl) ?_
      have hH49 : Has E { w39 with drawn := w39.drawn + 1 } [sg35, [Hp.one pb (.cells #[(.bool ((d.wr x ((s.take 64).drop 0)).wr (x + 1) ((s.take 128).drop 64)).p.off), (.bool ((d.wr x ((s.take 64).drop 0)).wr (x + 1) ((s.take 128).drop 64)).p.armed), (.int .i64 ((d.wr x ((s.take 64).drop 0)).wr (x + 1) ((s.take 128).drop 64)).p.left), (.int .i64 ((d.wr x ((s.take 64).drop 0)).wr (x + 1) ((s.take 128).drop 64)).p.uses)] 101 (0, 0))], [Hp.one b31 (.cells #[(S ((s.take 128).drop 64))] 9 (0, 0))], [Hp.one b11 (.cells #[(S ((s.take 64).drop 0))] 9 (0, 0))], [Hp.one tb (.cells #[(.pointer (some ⟨db, 0, none⟩)), (.int .i64 n)] 98 (0, 0))], R] := Has0.drew hH38 _
      refine Rest.phaseA (fun w_ => Has E w_ [[Hp.one tb (.cells #[(.pointer (some ⟨db, 0, none⟩)), (.int .i64 n)] 98 (0, 0))]]) 0 15 15 rfl (by decide) (by kernel_rfl) ?_
      refine a_op 0 rfl (by kernel_rfl) (fun w_ h_ => o_move (v := (.pointer (some ⟨tb, 0, none⟩))) rfl ⟨rfl, rfl⟩) ?_
      refine a_op 1 rfl (by kernel_rfl) (fun w_ h_ => o_nilCheck rfl ⟨rfl, rfl⟩) ?_
      refine a_op 2 rfl (by kernel_rfl) (fun w_ h_ => o_fieldAddr (k := 0) (fun _ => by kernel_rfl) rfl ⟨rfl, rfl⟩) ?_
      refine a_op 3 rfl (by kernel_rfl) (fun w_ h_ => o_load1 (v := (.pointer (some ⟨db, 0, none⟩))) Tryz.underlying29 rfl rfl h_ (seg_sub 0 rfl) (CellsAt.one rfl) ⟨rfl, rfl⟩) ?_
      refine a_op 4 rfl (by kernel_rfl) (fun w_ h_ => o_move (v := (.int .i64 x)) rfl ⟨rfl, rfl⟩) ?_
      refine a_op 5 rfl (by kernel_rfl) (fun w_ h_ => o_move (v := (.int .i64 2)) rfl ⟨rfl, rfl⟩) ?_
      refine a_op 6 rfl (by kernel_rfl) (fun w_ h_ => o_add (a := x) (b := 2) rfl rfl (w64 (by omega) (by omega)) ⟨rfl, rfl⟩) ?_
      refine a_op 7 rfl (by kernel_rfl) (fun w_ h_ => o_move (v := (S s)) rfl ⟨rfl, rfl⟩) ?_
      refine a_op 8 rfl (by kernel_rfl) (fun w_ h_ => o_move (v := (.int .i64 2)) rfl ⟨rfl, rfl⟩) ?_
      refine a_op 9 rfl (by kernel_rfl) (fun w_ h_ => o_mul (a := 2) (b := 64) (c := 128) rfl rfl (by decide) ⟨rfl, rfl⟩) ?_
      refine a_op 10 rfl (by kernel_rfl) (fun w_ h_ => o_move (v := (.int .i64 2)) rfl ⟨rfl, rfl⟩) ?_
      refine a_op 11 rfl (by kernel_rfl) (fun w_ h_ => o_add (a := 2) (b := 1) (c := 3) rfl rfl (by decide) ⟨rfl, rfl⟩) ?_
      refine a_op 12 rfl (by kernel_rfl) (fun w_ h_ => o_mul (a := 3) (b := 64) (c := 192) rfl rfl (by decide) ⟨rfl, rfl⟩) ?_
      refine a_op 13 rfl (by kernel_rfl) (fun w_ h_ => o_ssl Tryz.underlying9 rfl rfl rfl (by omega) (by omega) (by omega) ⟨rfl, rfl⟩) ?_
      have hH50 : Has E { w39 with drawn := w39.drawn + 1 } [[Hp.one tb (.cells #[(.pointer (some ⟨db, 0, none⟩)), (.int .i64 n)] 98 (0, 0))]] := (hH49.front 4 rfl).first 1 rfl
      refine a_w 14 rfl (by kernel_rfl) hH50 (o_buildSlice (ps := #[(0, (S ((s.take 192).drop 128)))]) (cells := #[(S ((s.take 192).drop 128))]) Tryz.underlying102 ti9 (by decide) (parts1 rfl) (by kernel_rfl) hH49 fun b51 w52 hH53 => ?_)
      have hH54 : Has E w52 [[Hp.one tb (.cells #[(.pointer (some ⟨db, 0, none⟩)), (.int .i64 n)] 98 (0, 0))]] := (hH53.front 5 rfl).first 1 rfl
      refine a_done (by kernel_rfl) hH54 ?_
      refine r_op 15 rfl (by kernel_rfl) (o_callf (vs := #[(.pointer (some ⟨db, 0, none⟩)), (.int .i64 (x + 2)), (.slice (some ⟨b51, 0, none⟩) 1 1)]) ca52 rfl (args3 rfl rfl rfl) (dv_wr (d := ((d.wr x ((s.take 64).drop 0)).wr (x + 1) ((s.take 128).drop 64))) ((hH53.front 2 rfl).front 2 rfl).all2 hd36 (hf.use.use.ok (by omega)) h4 (x + 2) (l := [(s.take 192).drop 128]) ((sl_lit (f := sV) (l := [(s.take 192).drop 128]) (g := (0, 0)) (T := 9) rfl rfl (by simp)).mono (seg_sub 0 rfl)) (s := (s.take 192).drop 128) (by simp) (by simp) (by first | (simp only [List.length_drop, List.length_take]; omega) | omega | (simp; done))) ?_)
      rintro _ w59 ⟨sg55, rfl, hd56, hX57⟩
      refine ⟨_, rfl, ?_⟩
      have hH58 : Has E w59 [sg55, [Hp.one pb (.cells #[(.bool (((d.wr x ((s.take 64).drop 0)).wr (x + 1) ((s.take 128).drop 64)).wr (x + 2) ((s.take 192).drop 128)).p.off), (.bool (((d.wr x ((s.take 64).drop 0)).wr (x + 1) ((s.take 128).drop 64)).wr (x + 2) ((s.take 192).drop 128)).p.armed), (.int .i64 (((d.wr x ((s.take 64).drop 0)).wr (x + 1) ((s.take 128).drop 64)).wr (x + 2) ((s.take 192).drop 128)).p.left), (.int .i64 (((d.wr x ((s.take 64).drop 0)).wr (x + 1) ((s.take 128).drop 64)).wr (x + 2) ((s.take 192).drop 128)).p.uses)] 101 (0, 0))], [Hp.one b51 (.cells #[(S ((s.take 192).drop 128))] 9 (0, 0))], [Hp.one b31 (.cells #[(S ((s.take 128).drop 64))] 9 (0, 0))], [Hp.one b11 (.cells #[(S ((s.take 64).drop 0))] 9 (0, 0))], [Hp.one tb (.cells #[(.pointer (some ⟨db, 0, none⟩)), (.int .i64 n)] 98 (0, 0))], R] := hX57.of_all2
      refine r_op 16 rfl (by kernel_rfl) (o_assign (v := (.int .i64 (((d.wr x ((s.take 64).drop 0)).wr (x + 1) ((s.take 128).drop 64)).wrE (x + 2) ((s.take 192).drop 128)))) rfl ?_)
      refine Rest.done (by kernel_rfl) ?_
      refine t_norm (hK48 _ _ ?_)
      refine wp_seq_k fun K60 hK60 => ?_
      refine c_region ?_
      refine s_op (o_move (v := (.int .i64 (((d.wr x ((s.take 64).drop 0)).wr (x + 1) ((s.take 128).drop 64)).wrE (x + 2) ((s.take 192).drop 128)))) rfl ?_)
      refine s_op (o_neq (a := ((d.wr x ((s.take 64).drop 0)).wr (x + 1) ((s.take 128).drop 64)).wrE (x + 2) ((s.take 192).drop 128)) (b := 0) rfl rfl ?_)
      refine s_nil ?_
      refine t_norm (hK60 _ _ ?_)
      refine c_cond rfl (fun h61 => ?_) (fun h61 => ?_)
      · -- ((d.wr x ((s.take 64).drop 0)).wr (x + 1) ((s.take 128).drop 64)).wrE (x + 2) ((s.take 192).drop 128) ≠ 0
        refine wp_seq_k fun K62 hK62 => ?_
        refine c_region ?_
        refine s_op (o_move (v := (.int .i64 (((d.wr x ((s.take 64).drop 0)).wr (x + 1) ((s.take 128).drop 64)).wrE (x + 2) ((s.take 192).drop 128)))) rfl ?_)
        refine s_op (o_assign (v := (.int .i64 (((d.wr x ((s.take 64).drop 0)).wr (x + 1) ((s.take 128).drop 64)).wrE (x + 2) ((s.take 192).drop 128)))) rfl ?_)
        refine s_nil ?_
        refine t_norm (hK62 _ _ ?_)
        refine wp_ret ?_
        refine b_ret (t_ret (t_ret (b_ret (t_ret (c_ret1 Tryz.results97  (v := (.int .i64 (((d.wr x ((s.take 64).drop 0)).wr (x + 1) ((s.take 128).drop 64)).wrE (x + 2) ((s.take 192).drop 128)))) rfl ?_)))))
        have hH63 : Has E w59 [sg55, [Hp.one pb (.cells #[(.bool (((d.wr x ((s.take 64).drop 0)).wr (x + 1) ((s.take 128).drop 64)).wr (x + 2) ((s.take 192).drop 128)).p.off), (.bool (((d.wr x ((s.take 64).drop 0)).wr (x + 1) ((s.take 128).drop 64)).wr (x + 2) ((s.take 192).drop 128)).p.armed), (.int .i64 (((d.wr x ((s.take 64).drop 0)).wr (x + 1) ((s.take 128).drop 64)).wr (x + 2) ((s.take 192).drop 128)).p.left), (.int .i64 (((d.wr x ((s.take 64).drop 0)).wr (x + 1) ((s.take 128).drop 64)).wr (x + 2) ((s.take 192).drop 128)).p.uses)] 101 (0, 0))], [Hp.one tb (.cells #[(.pointer (some ⟨db, 0, none⟩)), (.int .i64 n)] 98 (0, 0))], R] := ((((hH58.front 6 rfl).front 6 rfl).front 3 rfl).front 3 rfl).first 4 rfl
        have hE_ : (wrsy d (setT x s)) = (((d.wr x ((s.take 64).drop 0)).wr (x + 1) ((s.take 128).drop 64)).wrE (x + 2) ((s.take 192).drop 128), (((d.wr x ((s.take 64).drop 0)).wr (x + 1) ((s.take 128).drop 64)).wr (x + 2) ((s.take 192).drop 128))) := by show wrsy d [(x, (s.take 64).drop 0), (x + 1, (s.take 128).drop 64), (x + 2, (s.take 192).drop 128), (x + 3, (s.take 256).drop 192)] = _; rw [wrsy_go (Classical.not_not.1 h21), wrsy_go (Classical.not_not.1 h41), wrsy_stop h61]
        exact ⟨_, by rw [hE_], by rw [hE_]; exact hd56, by rw [hE_]; exact hH63⟩
      · -- not: ((d.wr x ((s.take 64).drop 0)).wr (x + 1) ((s.take 128).drop 64)).wrE (x + 2) ((s.take 192).drop 128) ≠ 0
        refine wp_skip ?_
        refine b_norm ?_
        refine t_norm (hK46 _ _ ?_)
        refine c_region ?_
        refine s_op (o_add (a := 2) (b := 1) (c := 3) rfl rfl (by decide) ?_)
        refine s_op (o_move (v := (.int .i64 3)) rfl ?_)
        refine s_nil ?_
        refine t_norm (u_round ?_)
        refine wp_seq_k fun K64 hK64 => ?_
        refine c_region ?_
        refine s_op (o_lss (a := 3) (b := 4) rfl rfl ?_)
        refine s_nil ?_
        refine t_norm (hK64 _ _ ?_)
        refine wp_seq_k fun K65 hK65 => ?_
        refine c_true rfl rfl ?_
        refine wp_skip ?_
        refine t_norm (hK65 _ _ ?_)
        refine wp_seq_k fun K66 hK66 => ?_
        refine wp_block ?_
        refine wp_seq_k fun K67 hK67 => ?_
        refine c_region ?_
        refine s_op (o_move (v := (.int .i64 3)) rfl ?_)
        refine s_op (o_assign (v := (.int .i64 3)) rfl ?_)
        refine s_nil ?_
        refine t_norm (hK67 _ _ ?_)
        refine wp_seq_k fun K68 hK68 => ?_
        refine Rest.region mixed (by kernel_rfl) ?_
        have hH69 : Has E { w59 with drawn := w59.drawn + 1 } [sg55, [Hp.one pb (.cells #[(.bool (((d.wr x ((s.take 64).drop 0)).wr (x + 1) ((s.take 128).drop 64)).wr (x + 2) ((s.take 192).drop 128)).p.off), (.bool (((d.wr x ((s.take 64).drop 0)).wr (x + 1) ((s.take 128).drop 64)).wr (x + 2) ((s.take 192).drop 128)).p.armed), (.int .i64 (((d.wr x ((s.take 64).drop 0)).wr (x + 1) ((s.take 128).drop 64)).wr (x + 2) ((s.take 192).drop 128)).p.left), (.int .i64 (((d.wr x ((s.take 64).drop 0)).wr (x + 1) ((s.take 128).drop 64)).wr (x + 2) ((s.take 192).drop 128)).p.uses)] 101 (0, 0))], [Hp.one b51 (.cells #[(S ((s.take 192).drop 128))] 9 (0, 0))], [Hp.one b31 (.cells #[(S ((s.take 128).drop 64))] 9 (0, 0))], [Hp.one b11 (.cells #[(S ((s.take 64).drop 0))] 9 (0, 0))], [Hp.one tb (.cells #[(.pointer (some ⟨db, 0, none⟩)), (.int .i64 n)] 98 (0, 0))], R] := Has0.drew hH58 _
        refine Rest.phaseA (fun w_ => Has E w_ [[Hp.one tb (.cells #[(.pointer (some ⟨db, 0, none⟩)), (.int .i64 n)] 98 (0, 0))]]) 0 15 15 rfl (by decide) (by kernel_rfl) ?_
        refine a_op 0 rfl (by kernel_rfl) (fun w_ h_ => o_move (v := (.pointer (some ⟨tb, 0, none⟩))) rfl ⟨rfl, rfl⟩) ?_
        refine a_op 1 rfl (by kernel_rfl) (fun w_ h_ => o_nilCheck rfl ⟨rfl, rfl⟩) ?_
        refine a_op 2 rfl (by kernel_rfl) (fun w_ h_ => o_fieldAddr (k := 0) (fun _ => by kernel_rfl) rfl ⟨rfl, rfl⟩) ?_
        refine a_op 3 rfl (by kernel_rfl) (fun w_ h_ => o_load1 (v := (.pointer (some ⟨db, 0, none⟩))) Tryz.underlying29 rfl rfl h_ (seg_sub 0 rfl) (CellsAt.one rfl) ⟨rfl, rfl⟩) ?_
        refine a_op 4 rfl (by kernel_rfl) (fun w_ h_ => o_move (v := (.int .i64 x)) rfl ⟨rfl, rfl⟩) ?_
        refine a_op 5 rfl (by kernel_rfl) (fun w_ h_ => o_move (v := (.int .i64 3)) rfl ⟨rfl, rfl⟩) ?_
        refine a_op 6 rfl (by kernel_rfl) (fun w_ h_ => o_add (a := x) (b := 3) rfl rfl (w64 (by omega) (by omega)) ⟨rfl, rfl⟩) ?_
        refine a_op 7 rfl (by kernel_rfl) (fun w_ h_ => o_move (v := (S s)) rfl ⟨rfl, rfl⟩) ?_
        refine a_op 8 rfl (by kernel_rfl) (fun w_ h_ => o_move (v := (.int .i64 3)) rfl ⟨rfl, rfl⟩) ?_
        refine a_op 9 rfl (by kernel_rfl) (fun w_ h_ => o_mul (a := 3) (b := 64) (c := 192) rfl rfl (by decide) ⟨rfl, rfl⟩) ?_
        refine a_op 10 rfl (by kernel_rfl) (fun w_ h_ => o_move (v := (.int .i64 3)) rfl ⟨rfl, rfl⟩) ?_
        refine a_op 11 rfl (by kernel_rfl) (fun w_ h_ => o_add (a := 3) (b := 1) (c := 4) rfl rfl (by decide) ⟨rfl, rfl⟩) ?_
        refine a_op 12 rfl (by kernel_rfl) (fun w_ h_ => o_mul (a := 4) (b := 64) (c := 256) rfl rfl (by decide) ⟨rfl, rfl⟩) ?_
        refine a_op 13 rfl (by kernel_rfl) (fun w_ h_ => o_ssl Tryz.underlying9 rfl rfl rfl (by omega) (by omega) (by omega) ⟨rfl, rfl⟩) ?_
        have hH70 : Has E { w59 with drawn := w59.drawn + 1 } [[Hp.one tb (.cells #[(.pointer (some ⟨db, 0, none⟩)), (.int .i64 n)] 98 (0, 0))]] := (hH69.front 5 rfl).first 1 rfl
        refine a_w 14 rfl (by kernel_rfl) hH70 (o_buildSlice (ps := #[(0, (S ((s.take 256).drop 192)))]) (cells := #[(S ((s.take 256).drop 192))]) Tryz.underlying102 ti9 (by decide) (parts1 rfl) (by kernel_rfl) hH69 fun b71 w72 hH73 => ?_)
        have hH74 : Has E w72 [[Hp.one tb (.cells #[(.pointer (some ⟨db, 0, none⟩)), (.int .i64 n)] 98 (0, 0))]] := (hH73.front 6 rfl).first 1 rfl
        refine a_done (by kernel_rfl) hH74 ?_
        refine r_op 15 rfl (by kernel_rfl) (o_callf (vs := #[(.pointer (some ⟨db, 0, none⟩)), (.int .i64 (x + 3)), (.slice (some ⟨b71, 0, none⟩) 1 1)]) ca52 rfl (args3 rfl rfl rfl) (dv_wr (d := (((d.wr x ((s.take 64).drop 0)).wr (x + 1) ((s.take 128).drop 64)).wr (x + 2) ((s.take 192).drop 128))) ((hH73.front 2 rfl).front 2 rfl).all2 hd56 (hf.use.use.use.ok (by omega)) h4 (x + 3) (l := [(s.take 256).drop 192]) ((sl_lit (f := sV) (l := [(s.take 256).drop 192]) (g := (0, 0)) (T := 9) rfl rfl (by simp)).mono (seg_sub 0 rfl)) (s := (s.take 256).drop 192) (by simp) (by simp) (by first | (simp only [List.length_drop, List.length_take]; omega) | omega | (simp; done))) ?_)
        rintro _ w79 ⟨sg75, rfl, hd76, hX77⟩
        refine ⟨_, rfl, ?_⟩
        have hH78 : Has E w79 [sg75, [Hp.one pb (.cells #[(.bool ((((d.wr x ((s.take 64).drop 0)).wr (x + 1) ((s.take 128).drop 64)).wr (x + 2) ((s.take 192).drop 128)).wr (x + 3) ((s.take 256).drop 192)).p.off), (.bool ((((d.wr x ((s.take 64).drop 0)).wr (x + 1) ((s.take 128).drop 64)).wr (x + 2) ((s.take 192).drop 128)).wr (x + 3) ((s.take 256).drop 192)).p.armed), (.int .i64 ((((d.wr x ((s.take 64).drop 0)).wr (x + 1) ((s.take 128).drop 64)).wr (x + 2) ((s.take 192).drop 128)).wr (x + 3) ((s.take 256).drop 192)).p.left), (.int .i64 ((((d.wr x ((s.take 64).drop 0)).wr (x + 1) ((s.take 128).drop 64)).wr (x + 2) ((s.take 192).drop 128)).wr (x + 3) ((s.take 256).drop 192)).p.uses)] 101 (0, 0))], [Hp.one b71 (.cells #[(S ((s.take 256).drop 192))] 9 (0, 0))], [Hp.one b51 (.cells #[(S ((s.take 192).drop 128))] 9 (0, 0))], [Hp.one b31 (.cells #[(S ((s.take 128).drop 64))] 9 (0, 0))], [Hp.one b11 (.cells #[(S ((s.take 64).drop 0))] 9 (0, 0))], [Hp.one tb (.cells #[(.pointer (some ⟨db, 0, none⟩)), (.int .i64 n)] 98 (0, 0))], R] := hX77.of_all2
        refine r_op 16 rfl (by kernel_rfl) (o_assign (v := (.int .i64 ((((d.wr x ((s.take 64).drop 0)).wr (x + 1) ((s.take 128).drop 64)).wr (x + 2) ((s.take 192).drop 128)).wrE (x + 3) ((s.take 256).drop 192)))) rfl ?_)
        refine Rest.done (by kernel_rfl) ?_
        refine t_norm (hK68 _ _ ?_)
        refine wp_seq_k fun K80 hK80 => ?_
        refine c_region ?_
        refine s_op (o_move (v := (.int .i64 ((((d.wr x ((s.take 64).drop 0)).wr (x + 1) ((s.take 128).drop 64)).wr (x + 2) ((s.take 192).drop 128)).wrE (x + 3) ((s.take 256).drop 192)))) rfl ?_)
        refine s_op (o_neq (a := (((d.wr x ((s.take 64).drop 0)).wr (x + 1) ((s.take 128).drop 64)).wr (x + 2) ((s.take 192).drop 128)).wrE (x + 3) ((s.take 256).drop 192)) (b := 0) rfl rfl ?_)
        refine s_nil ?_
        refine t_norm (hK80 _ _ ?_)
        refine c_cond rfl (fun h81 => ?_) (fun h81 => ?_)
        · -- (((d.wr x ((s.take 64).drop 0)).wr (x + 1) ((s.take 128).drop 64)).wr (x + 2) ((s.take 192).drop 128)).wrE (x + 3) ((s.take 256).drop 192) ≠ 0
          refine wp_seq_k fun K82 hK82 => ?_
          refine c_region ?_
          refine s_op (o_move (v := (.int .i64 ((((d.wr x ((s.take 64).drop 0)).wr (x + 1) ((s.take 128).drop 64)).wr (x + 2) ((s.take 192).drop 128)).wrE (x + 3) ((s.take 256).drop 192)))) rfl ?_)
          refine s_op (o_assign (v := (.int .i64 ((((d.wr x ((s.take 64).drop 0)).wr (x + 1) ((s.take 128).drop 64)).wr (x + 2) ((s.take 192).drop 128)).wrE (x + 3) ((s.take 256).drop 192)))) rfl ?_)
          refine s_nil ?_
          refine t_norm (hK82 _ _ ?_)
          refine wp_ret ?_
          refine b_ret (t_ret (t_ret (b_ret (t_ret (c_ret1 Tryz.results97  (v := (.int .i64 ((((d.wr x ((s.take 64).drop 0)).wr (x + 1) ((s.take 128).drop 64)).wr (x + 2) ((s.take 192).drop 128)).wrE (x + 3) ((s.take 256).drop 192)))) rfl ?_)))))
          have hH83 : Has E w79 [sg75, [Hp.one pb (.cells #[(.bool ((((d.wr x ((s.take 64).drop 0)).wr (x + 1) ((s.take 128).drop 64)).wr (x + 2) ((s.take 192).drop 128)).wr (x + 3) ((s.take 256).drop 192)).p.off), (.bool ((((d.wr x ((s.take 64).drop 0)).wr (x + 1) ((s.take 128).drop 64)).wr (x + 2) ((s.take 192).drop 128)).wr (x + 3) ((s.take 256).drop 192)).p.armed), (.int .i64 ((((d.wr x ((s.take 64).drop 0)).wr (x + 1) ((s.take 128).drop 64)).wr (x + 2) ((s.take 192).drop 128)).wr (x + 3) ((s.take 256).drop 192)).p.left), (.int .i64 ((((d.wr x ((s.take 64).drop 0)).wr (x + 1) ((s.take 128).drop 64)).wr (x + 2) ((s.take 192).drop 128)).wr (x + 3) ((s.take 256).drop 192)).p.uses)] 101 (0, 0))], [Hp.one tb (.cells #[(.pointer (some ⟨db, 0, none⟩)), (.int .i64 n)] 98 (0, 0))], R] := ((((hH78.front 7 rfl).front 7 rfl).front 3 rfl).front 3 rfl).first 4 rfl
          have hE_ : (wrsy d (setT x s)) = ((((d.wr x ((s.take 64).drop 0)).wr (x + 1) ((s.take 128).drop 64)).wr (x + 2) ((s.take 192).drop 128)).wrE (x + 3) ((s.take 256).drop 192), ((((d.wr x ((s.take 64).drop 0)).wr (x + 1) ((s.take 128).drop 64)).wr (x + 2) ((s.take 192).drop 128)).wr (x + 3) ((s.take 256).drop 192))) := by show wrsy d [(x, (s.take 64).drop 0), (x + 1, (s.take 128).drop 64), (x + 2, (s.take 192).drop 128), (x + 3, (s.take 256).drop 192)] = _; rw [wrsy_go (Classical.not_not.1 h21), wrsy_go (Classical.not_not.1 h41), wrsy_go (Classical.not_not.1 h61), wrsy_stop h81]
          exact ⟨_, by rw [hE_], by rw [hE_]; exact hd76, by rw [hE_]; exact hH83⟩
        · -- not: (((d.wr x ((s.take 64).drop 0)).wr (x + 1) ((s.take 128).drop 64)).wr (x + 2) ((s.take 192).drop 128)).wrE (x + 3) ((s.take 256).drop 192) ≠ 0
          refine wp_skip ?_
          refine b_norm ?_
          refine t_norm (hK66 _ _ ?_)
          refine c_region ?_
          refine s_op (o_add (a := 3) (b := 1) (c := 4) rfl rfl (by decide) ?_)
          refine s_op (o_move (v := (.int .i64 4)) rfl ?_)
          refine s_nil ?_
          refine t_norm (u_round ?_)
          refine wp_seq_k fun K84 hK84 => ?_
          refine c_region ?_
          refine s_op (o_lss (a := 4) (b := 4) rfl rfl ?_)
          refine s_nil ?_
          refine t_norm (hK84 _ _ ?_)
          refine wp_seq_k fun K85 hK85 => ?_
          refine c_false rfl rfl ?_
          refine wp_exit ?_
          refine t_exit (t_exit (x_in (?_)))
          refine t_norm (hK2 _ _ ?_)
          refine wp_seq_k fun K86 hK86 => ?_
          refine c_region ?_
          refine s_op (o_move (v := (.pointer (some ⟨tb, 0, none⟩))) rfl ?_)
          refine s_op (o_nilCheck rfl ?_)
          refine s_op (o_fieldAddr (k := 0) (fun _ => by kernel_rfl) rfl ?_)
          refine s_op (o_load1 (v := (.pointer (some ⟨db, 0, none⟩))) Tryz.underlying29 rfl rfl hH78 (seg_sub 6 rfl) (CellsAt.one rfl) ?_)
          refine s_op (o_callf (vs := #[(.pointer (some ⟨db, 0, none⟩))]) ca27 rfl (args1 rfl) (dv_sy (d := ((((d.wr x ((s.take 64).drop 0)).wr (x + 1) ((s.take 128).drop 64)).wr (x + 2) ((s.take 192).drop 128)).wr (x + 3) ((s.take 256).drop 192))) ((hH78.front 1 rfl).front 1 rfl).all2 hd76 (hf.use.use.use.use.ok (by omega)) h4 ((((hlk.write _ _ _).write _ _ _).write _ _ _).write _ _ _)) ?_)
          rintro _ w91 ⟨sg87, rfl, hd88, hX89⟩
          refine ⟨_, rfl, ?_⟩
          have hH90 : Has E w91 [sg87, [Hp.one pb (.cells #[(.bool (((((d.wr x ((s.take 64).drop 0)).wr (x + 1) ((s.take 128).drop 64)).wr (x + 2) ((s.take 192).drop 128)).wr (x + 3) ((s.take 256).drop 192)).sy).p.off), (.bool (((((d.wr x ((s.take 64).drop 0)).wr (x + 1) ((s.take 128).drop 64)).wr (x + 2) ((s.take 192).drop 128)).wr (x + 3) ((s.take 256).drop 192)).sy).p.armed), (.int .i64 (((((d.wr x ((s.take 64).drop 0)).wr (x + 1) ((s.take 128).drop 64)).wr (x + 2) ((s.take 192).drop 128)).wr (x + 3) ((s.take 256).drop 192)).sy).p.left), (.int .i64 (((((d.wr x ((s.take 64).drop 0)).wr (x + 1) ((s.take 128).drop 64)).wr (x + 2) ((s.take 192).drop 128)).wr (x + 3) ((s.take 256).drop 192)).sy).p.uses)] 101 (0, 0))], [Hp.one b71 (.cells #[(S ((s.take 256).drop 192))] 9 (0, 0))], [Hp.one b51 (.cells #[(S ((s.take 192).drop 128))] 9 (0, 0))], [Hp.one b31 (.cells #[(S ((s.take 128).drop 64))] 9 (0, 0))], [Hp.one b11 (.cells #[(S ((s.take 64).drop 0))] 9 (0, 0))], [Hp.one tb (.cells #[(.pointer (some ⟨db, 0, none⟩)), (.int .i64 n)] 98 (0, 0))], R] := hX89.of_all2
          refine s_op (o_assign (v := (.int .i64 (((((d.wr x ((s.take 64).drop 0)).wr (x + 1) ((s.take 128).drop 64)).wr (x + 2) ((s.take 192).drop 128)).wr (x + 3) ((s.take 256).drop 192)).syE))) rfl ?_)
          refine s_nil ?_
          refine t_norm (hK86 _ _ ?_)
          refine wp_ret ?_
          refine c_ret1 Tryz.results97  (v := (.int .i64 (((((d.wr x ((s.take 64).drop 0)).wr (x + 1) ((s.take 128).drop 64)).wr (x + 2) ((s.take 192).drop 128)).wr (x + 3) ((s.take 256).drop 192)).syE))) rfl ?_
          have hH92 : Has E w91 [sg87, [Hp.one pb (.cells #[(.bool (((((d.wr x ((s.take 64).drop 0)).wr (x + 1) ((s.take 128).drop 64)).wr (x + 2) ((s.take 192).drop 128)).wr (x + 3) ((s.take 256).drop 192)).sy).p.off), (.bool (((((d.wr x ((s.take 64).drop 0)).wr (x + 1) ((s.take 128).drop 64)).wr (x + 2) ((s.take 192).drop 128)).wr (x + 3) ((s.take 256).drop 192)).sy).p.armed), (.int .i64 (((((d.wr x ((s.take 64).drop 0)).wr (x + 1) ((s.take 128).drop 64)).wr (x + 2) ((s.take 192).drop 128)).wr (x + 3) ((s.take 256).drop 192)).sy).p.left), (.int .i64 (((((d.wr x ((s.take 64).drop 0)).wr (x + 1) ((s.take 128).drop 64)).wr (x + 2) ((s.take 192).drop 128)).wr (x + 3) ((s.take 256).drop 192)).sy).p.uses)] 101 (0, 0))], [Hp.one tb (.cells #[(.pointer (some ⟨db, 0, none⟩)), (.int .i64 n)] 98 (0, 0))], R] := ((((hH90.front 7 rfl).front 7 rfl).front 3 rfl).front 3 rfl).first 4 rfl
          have hE_ : (wrsy d (setT x s)) = (((((d.wr x ((s.take 64).drop 0)).wr (x + 1) ((s.take 128).drop 64)).wr (x + 2) ((s.take 192).drop 128)).wr (x + 3) ((s.take 256).drop 192)).syE, ((((d.wr x ((s.take 64).drop 0)).wr (x + 1) ((s.take 128).drop 64)).wr (x + 2) ((s.take 192).drop 128)).wr (x + 3) ((s.take 256).drop 192)).sy) := by show wrsy d [(x, (s.take 64).drop 0), (x + 1, (s.take 128).drop 64), (x + 2, (s.take 192).drop 128), (x + 3, (s.take 256).drop 192)] = _; rw [wrsy_go (Classical.not_not.1 h21), wrsy_go (Classical.not_not.1 h41), wrsy_go (Classical.not_not.1 h61), wrsy_go (Classical.not_not.1 h81), wrsy_nil]
          exact ⟨_, by rw [hE_], by rw [hE_]; exact hd88, by rw [hE_]; exact hH92⟩
set_option maxHeartbeats 4000000 in
theorem tmark_c {E w : World} {R sg : List Hp} {pb db tb : Nat} {d : Dv} {n : Int} (hH : Has E w [sg, [Hp.one pb (.cells #[(.bool d.p.off), (.bool d.p.armed), (.int .i64 d.p.left), (.int .i64 d.p.uses)] 101 (0, 0))], [Hp.one tb (.cells #[(.pointer (some ⟨db, 0, none⟩)), (.int .i64 n)] 98 (0, 0))], R]) (hd : DevAt pb sg db d.la d.lo) {k : Nat} (hf : Few d.p k) (hk : k ≤ 900000) (hlk : LoOk d.lo d.la.length) (h4 : d.la.length ≤ 4096) {v : Value} {l : List Int} (hv : Ints R v l) (hl : l.length ≤ 1000) (hpl : (putS 1 l).length ≤ 1000) :
    Calls Tryz.prog 98 #[(.pointer (some ⟨tb, 0, none⟩)), v] w fun e w' => ∃ sg', e = .returned (.int .i64 (wrsy d (mrkG l)).1) ∧ DevAt pb sg' db (wrsy d (mrkG l)).2.la (wrsy d (mrkG l)).2.lo ∧ Has E w' [sg', [Hp.one pb (.cells #[(.bool ((wrsy d (mrkG l)).2).p.off), (.bool ((wrsy d (mrkG l)).2).p.armed), (.int .i64 ((wrsy d (mrkG l)).2).p.left), (.int .i64 ((wrsy d (mrkG l)).2).p.uses)] 101 (0, 0))], [Hp.one tb (.cells #[(.pointer (some ⟨db, 0, none⟩)), (.int .i64 n)] 98 (0, 0))], R] := by
  refine c_enter (args := [(.pointer (some ⟨tb, 0, none⟩)), v]) Tryz.func98 rfl Tryz.ntmps98 (by simp) ?_
  refine wp_seq_k fun K1 hK1 => ?_
  refine c_region ?_
  refine s_op (o_assign (v := (.int .i64 0)) rfl ?_)
  refine s_nil ?_
  refine t_norm (hK1 _ _ ?_)
  refine wp_seq_k fun K2 hK2 => ?_
  refine wp_seq_k fun K3 hK3 => ?_
  refine Rest.region mixed (by kernel_rfl) ?_
  have hH4 : Has E { w with drawn := w.drawn + 1 } [sg, [Hp.one pb (.cells #[(.bool d.p.off), (.bool d.p.armed), (.int .i64 d.p.left), (.int .i64 d.p.uses)] 101 (0, 0))], [Hp.one tb (.cells #[(.pointer (some ⟨db, 0, none⟩)), (.int .i64 n)] 98 (0, 0))], R] := Has0.drew hH _
  refine Rest.phaseA (fun w_ => Has E w_ [[Hp.one tb (.cells #[(.pointer (some ⟨db, 0, none⟩)), (.int .i64 n)] 98 (0, 0))]]) 0 7 7 rfl (by decide) (by kernel_rfl) ?_
  refine a_op 0 rfl (by kernel_rfl) (fun w_ h_ => o_move (v := (.pointer (some ⟨tb, 0, none⟩))) rfl ⟨rfl, rfl⟩) ?_
  refine a_op 1 rfl (by kernel_rfl) (fun w_ h_ => o_nilCheck rfl ⟨rfl, rfl⟩) ?_
  refine a_op 2 rfl (by kernel_rfl) (fun w_ h_ => o_fieldAddr (k := 0) (fun _ => by kernel_rfl) rfl ⟨rfl, rfl⟩) ?_
  refine a_op 3 rfl (by kernel_rfl) (fun w_ h_ => o_load1 (v := (.pointer (some ⟨db, 0, none⟩))) Tryz.underlying29 rfl rfl h_ (seg_sub 0 rfl) (CellsAt.one rfl) ⟨rfl, rfl⟩) ?_
  refine a_op 4 rfl (by kernel_rfl) (fun w_ h_ => o_move (v := v) rfl ⟨rfl, rfl⟩) ?_
  have hH5 : Has E { w with drawn := w.drawn + 1 } [[Hp.one tb (.cells #[(.pointer (some ⟨db, 0, none⟩)), (.int .i64 n)] 98 (0, 0))]] := (hH4.front 2 rfl).first 1 rfl
  refine a_w 5 rfl (by kernel_rfl) hH5 (o_callf (vs := #[(.int .i64 1), v]) ca121 rfl (args2 rfl rfl) (put_c hH4.all 1 (l := l) (hv.mono (seg_sub 3 rfl)) (by omega)) ?_)
  rintro _ w8 ⟨rfl, hX6⟩
  refine ⟨_, rfl, ?_⟩
  have hH7 := hX6.of_all
  have hH9 : Has E w8 [[Hp.one tb (.cells #[(.pointer (some ⟨db, 0, none⟩)), (.int .i64 n)] 98 (0, 0))]] := (hH7.front 2 rfl).first 1 rfl
  refine a_w 6 rfl (by kernel_rfl) hH9 (o_buildSlice (ps := #[(0, (S (putS 1 l)))]) (cells := #[(S (putS 1 l))]) Tryz.underlying102 ti9 (by decide) (parts1 rfl) (by kernel_rfl) hH7 fun b10 w11 hH12 => ?_)
  have hH13 : Has E w11 [[Hp.one tb (.cells #[(.pointer (some ⟨db, 0, none⟩)), (.int .i64 n)] 98 (0, 0))]] := (hH12.front 3 rfl).first 1 rfl
  refine a_done (by kernel_rfl) hH13 ?_
  refine r_op 7 rfl (by kernel_rfl) (o_callf (vs := #[(.pointer (some ⟨db, 0, none⟩)), (.int .i64 0), (.slice (some ⟨b10, 0, none⟩) 1 1)]) ca52 rfl (args3 rfl rfl rfl) (dv_wr (d := d) ((hH12.front 2 rfl).front 2 rfl).all2 hd (hf.ok (by omega)) h4 0 (l := [(putS 1 l)]) ((sl_lit (f := sV) (l := [(putS 1 l)]) rfl rfl (by simp)).mono (seg_sub 0 rfl)) (s := (putS 1 l)) (by simp) (by simp) (by omega)) ?_)
  rintro _ w18 ⟨sg14, rfl, hd15, hX16⟩
  refine ⟨_, rfl, ?_⟩
  have hH17 : Has E w18 [sg14, [Hp.one pb (.cells #[(.bool (d.wr 0 (putS 1 l)).p.off), (.bool (d.wr 0 (putS 1 l)).p.armed), (.int .i64 (d.wr 0 (putS 1 l)).p.left), (.int .i64 (d.wr 0 (putS 1 l)).p.uses)] 101 (0, 0))], [Hp.one b10 (.cells #[(S (putS 1 l))] 9 (0, 0))], [Hp.one tb (.cells #[(.pointer (some ⟨db, 0, none⟩)), (.int .i64 n)] 98 (0, 0))], R] := hX16.of_all2
  refine r_op 8 rfl (by kernel_rfl) (o_assign (v := (.int .i64 (d.wrE 0 (putS 1 l)))) rfl ?_)
  refine Rest.done (by kernel_rfl) ?_
  refine t_norm (hK3 _ _ ?_)
  refine wp_seq_k fun K19 hK19 => ?_
  refine c_region ?_
  refine s_op (o_move (v := (.int .i64 (d.wrE 0 (putS 1 l)))) rfl ?_)
  refine s_op (o_neq (a := d.wrE 0 (putS 1 l)) (b := 0) rfl rfl ?_)
  refine s_nil ?_
  refine t_norm (hK19 _ _ ?_)
  refine c_cond rfl (fun h20 => ?_) (fun h20 => ?_)
  · -- d.wrE 0 (putS 1 l) ≠ 0
    refine wp_seq_k fun K21 hK21 => ?_
    refine c_region ?_
    refine s_op (o_move (v := (.int .i64 (d.wrE 0 (putS 1 l)))) rfl ?_)
    refine s_op (o_assign (v := (.int .i64 (d.wrE 0 (putS 1 l)))) rfl ?_)
    refine s_nil ?_
    refine t_norm (hK21 _ _ ?_)
    refine wp_ret ?_
    refine t_ret (c_ret1 Tryz.results98  (v := (.int .i64 (d.wrE 0 (putS 1 l)))) rfl ?_)
    have hH22 : Has E w18 [sg14, [Hp.one pb (.cells #[(.bool (d.wr 0 (putS 1 l)).p.off), (.bool (d.wr 0 (putS 1 l)).p.armed), (.int .i64 (d.wr 0 (putS 1 l)).p.left), (.int .i64 (d.wr 0 (putS 1 l)).p.uses)] 101 (0, 0))], [Hp.one tb (.cells #[(.pointer (some ⟨db, 0, none⟩)), (.int .i64 n)] 98 (0, 0))], R] := ((((hH17.front 4 rfl).front 4 rfl).front 3 rfl).front 3 rfl).first 4 rfl
    have hE_ : (wrsy d (mrkG l)) = (d.wrE 0 (putS 1 l), (d.wr 0 (putS 1 l))) := by show wrsy d [(0, putS 1 l)] = _; rw [wrsy_stop h20]
    exact ⟨_, by rw [hE_], by rw [hE_]; exact hd15, by rw [hE_]; exact hH22⟩
  · -- not: d.wrE 0 (putS 1 l) ≠ 0
    refine wp_skip ?_
    refine t_norm (hK2 _ _ ?_)
    refine wp_seq_k fun K23 hK23 => ?_
    refine c_region ?_
    refine s_op (o_move (v := (.pointer (some ⟨tb, 0, none⟩))) rfl ?_)
    refine s_op (o_nilCheck rfl ?_)
    refine s_op (o_fieldAddr (k := 0) (fun _ => by kernel_rfl) rfl ?_)
    refine s_op (o_load1 (v := (.pointer (some ⟨db, 0, none⟩))) Tryz.underlying29 rfl rfl hH17 (seg_sub 3 rfl) (CellsAt.one rfl) ?_)
    refine s_op (o_callf (vs := #[(.pointer (some ⟨db, 0, none⟩))]) ca27 rfl (args1 rfl) (dv_sy (d := (d.wr 0 (putS 1 l))) ((hH17.front 1 rfl).front 1 rfl).all2 hd15 (hf.use.ok (by omega)) h4 (hlk.write _ _ _)) ?_)
    rintro _ w28 ⟨sg24, rfl, hd25, hX26⟩
    refine ⟨_, rfl, ?_⟩
    have hH27 : Has E w28 [sg24, [Hp.one pb (.cells #[(.bool ((d.wr 0 (putS 1 l)).sy).p.off), (.bool ((d.wr 0 (putS 1 l)).sy).p.armed), (.int .i64 ((d.wr 0 (putS 1 l)).sy).p.left), (.int .i64 ((d.wr 0 (putS 1 l)).sy).p.uses)] 101 (0, 0))], [Hp.one b10 (.cells #[(S (putS 1 l))] 9 (0, 0))], [Hp.one tb (.cells #[(.pointer (some ⟨db, 0, none⟩)), (.int .i64 n)] 98 (0, 0))], R] := hX26.of_all2
    refine s_op (o_assign (v := (.int .i64 ((d.wr 0 (putS 1 l)).syE))) rfl ?_)
    refine s_nil ?_
    refine t_norm (hK23 _ _ ?_)
    refine wp_ret ?_
    refine c_ret1 Tryz.results98  (v := (.int .i64 ((d.wr 0 (putS 1 l)).syE))) rfl ?_
    have hH29 : Has E w28 [sg24, [Hp.one pb (.cells #[(.bool ((d.wr 0 (putS 1 l)).sy).p.off), (.bool ((d.wr 0 (putS 1 l)).sy).p.armed), (.int .i64 ((d.wr 0 (putS 1 l)).sy).p.left), (.int .i64 ((d.wr 0 (putS 1 l)).sy).p.uses)] 101 (0, 0))], [Hp.one tb (.cells #[(.pointer (some ⟨db, 0, none⟩)), (.int .i64 n)] 98 (0, 0))], R] := ((((hH27.front 4 rfl).front 4 rfl).front 3 rfl).front 3 rfl).first 4 rfl
    have hE_ : (wrsy d (mrkG l)) = ((d.wr 0 (putS 1 l)).syE, (d.wr 0 (putS 1 l)).sy) := by show wrsy d [(0, putS 1 l)] = _; rw [wrsy_go (Classical.not_not.1 h20), wrsy_nil]
    exact ⟨_, by rw [hE_], by rw [hE_]; exact hd25, by rw [hE_]; exact hH29⟩
set_option maxHeartbeats 4000000 in
theorem place_c {E w : World} {R : List Hp} (hH : Has E w [R]) {x : Int} (hx : 0 ≤ x ∧ x ≤ 1000) :
    Calls Tryz.prog 64 #[(.int .i64 x)] w fun e w' => e = .returned (.int .i64 (plc x)) ∧ Has E w' [R] := by
  refine c_enter (args := [(.int .i64 x)]) Tryz.func64 rfl Tryz.ntmps64 (by simp) ?_
  refine wp_seq_k fun K1 hK1 => ?_
  refine c_region ?_
  refine s_op (o_assign (v := (.int .i64 0)) rfl ?_)
  refine s_nil ?_
  refine t_norm (hK1 _ _ ?_)
  refine wp_seq_k fun K2 hK2 => ?_
  refine c_region ?_
  refine s_op (o_move (v := (.int .i64 x)) rfl ?_)
  refine s_op (o_mul (a := x) (b := 4) rfl rfl (w64 (by omega) (by omega)) ?_)
  refine s_op (o_add (a := 5) (b := x * 4) rfl rfl (w64 (by omega) (by omega)) ?_)
  refine s_op (o_assign (v := (.int .i64 (5 + (x * 4)))) rfl ?_)
  refine s_nil ?_
  refine t_norm (hK2 _ _ ?_)
  refine wp_ret ?_
  refine c_ret1 Tryz.results64  (v := (.int .i64 (5 + (x * 4)))) rfl ?_
  exact ⟨by unfold plc; rfl, hH⟩
end Go.Q
namespace Go.Q
open Go.Proofs
set_option linter.unusedVariables false
set_option maxRecDepth 100000
attribute [local irreducible] wpList OK Code.wp
set_option maxHeartbeats 4000000 in
theorem tfmt_ok {E w : World} {R sg : List Hp} {pb db : Nat} {p : Pw} {m : Nat} (hH : Has E w [sg, [Hp.one pb (.cells #[(.bool p.off), (.bool p.armed), (.int .i64 p.left), (.int .i64 p.uses)] 101 (0, 0))], R]) (hd : DevAt pb sg db (List.replicate m blankS) []) {n : Int} (hcal : p.off = false ∧ p.armed = false) {k : Nat} (hf : Few p k) (hk : k ≤ 800000) (hm : m ≤ 4096) (hn : 1 ≤ n ∧ n ≤ 64) (hln : 5 + n * 4 ≤ m) :
    Calls Tryz.prog 13 #[(.pointer (some ⟨db, 0, none⟩)), (.int .i64 n)] w fun e w' => ∃ tb sg', e = .returned (.tuple #[.pointer (some ⟨tb, 0, none⟩), .int .i64 0]) ∧ DevAt pb sg' db (List.replicate m blankS) [] ∧ Has E w' [[Hp.one tb (.cells #[(.pointer (some ⟨db, 0, none⟩)), (.int .i64 n)] 98 (0, 0))], sg', [Hp.one pb (.cells #[(.bool (Pw.mk false false (p.left - (m + 1)) (p.uses + (m + 1))).off), (.bool (Pw.mk false false (p.left - (m + 1)) (p.uses + (m + 1))).armed), (.int .i64 (Pw.mk false false (p.left - (m + 1)) (p.uses + (m + 1))).left), (.int .i64 (Pw.mk false false (p.left - (m + 1)) (p.uses + (m + 1))).uses)] 101 (0, 0))], R] := by
  have hml_ : (List.replicate m blankS).length = m := List.length_replicate
  refine c_enter (args := [(.pointer (some ⟨db, 0, none⟩)), (.int .i64 n)]) Tryz.func13 rfl Tryz.ntmps13 (by simp) ?_
  refine wp_seq_k fun K1 hK1 => ?_
  refine c_region ?_
  refine s_op (o_assign (v := (.pointer none)) rfl ?_)
  refine s_op (o_assign (v := (.int .i64 0)) rfl ?_)
  refine s_nil ?_
  refine t_norm (hK1 _ _ ?_)
  refine wp_seq_k fun K2 hK2 => ?_
  refine wp_seq_k fun K3 hK3 => ?_
  refine c_region ?_
  refine s_op (o_move (v := (.pointer (some ⟨db, 0, none⟩))) rfl ?_)
  refine s_op (o_move (v := (.int .i64 n)) rfl ?_)
  refine s_op (o_callf (vs := #[(.pointer (some ⟨db, 0, none⟩)), (.int .i64 n)]) ca50 rfl (args2 rfl rfl) (begin_ok (d := (Dv.mk p (List.replicate m blankS) [])) ((hH.front 1 rfl).front 1 rfl).all2 hd (n := n) (by rw [List.length_replicate]; exact hm) hn (by rw [List.length_replicate]; omega) hcal.1) ?_)
  rintro _ w6 ⟨rfl, hX4⟩
  refine ⟨_, rfl, ?_⟩
  have hH5 : Has E w6 [sg, [Hp.one pb (.cells #[(.bool p.off), (.bool p.armed), (.int .i64 p.left), (.int .i64 p.uses)] 101 (0, 0))], R] := hX4.of_all2
  refine s_op (o_assign (v := (.int .i64 (0 : Int))) rfl ?_)
  refine s_nil ?_
  refine t_norm (hK3 _ _ ?_)
  refine wp_seq_k fun K7 hK7 => ?_
  refine c_region ?_
  refine s_op (o_move (v := (.int .i64 (0 : Int))) rfl ?_)
  refine s_op (o_neq (a := (0 : Int)) (b := 0) rfl rfl ?_)
  refine s_nil ?_
  refine t_norm (hK7 _ _ ?_)
  refine c_cond rfl (fun h8 => ?_) (fun h8 => ?_)
  · -- (0 : Int) ≠ 0
    exact absurd rfl h8
  · -- not: (0 : Int) ≠ 0
    refine wp_skip ?_
    refine t_norm (hK2 _ _ ?_)
    refine wp_seq_k fun K9 hK9 => ?_
    refine wp_seq_k fun K10 hK10 => ?_
    refine c_region ?_
    refine s_op (o_move (v := (.pointer (some ⟨db, 0, none⟩))) rfl ?_)
    refine s_op (o_callf (vs := #[(.pointer (some ⟨db, 0, none⟩))]) ca51 rfl (args1 rfl) (sectors_d (p := p) (la := (List.replicate m blankS)) (lo := []) ((hH5.front 1 rfl).front 1 rfl).all2 hd ) ?_)
    rintro _ w13 ⟨rfl, hX11⟩
    refine ⟨_, rfl, ?_⟩
    have hH12 : Has E w13 [sg, [Hp.one pb (.cells #[(.bool p.off), (.bool p.armed), (.int .i64 p.left), (.int .i64 p.uses)] 101 (0, 0))], R] := hX11.of_all2
    refine s_op (o_move (v := (.int .i64 0)) rfl ?_)
    refine s_nil ?_
    refine t_norm (hK10 _ _ ?_)
    refine wp_block ?_
    have hH14 : Has E w13 [sg, [Hp.one pb (.cells #[(.bool (Dv.mk p (List.replicate m blankS) []).p.off), (.bool (Dv.mk p (List.replicate m blankS) []).p.armed), (.int .i64 (Dv.mk p (List.replicate m blankS) []).p.left), (.int .i64 (Dv.mk p (List.replicate m blankS) []).p.uses)] 101 (0, 0))], R] := hH12
    let I16 : Nat → (Nat → Value) → World → Prop := fun n__ r__ w__ => ∃ (i : Nat) (dc : Dv) (sgc : List Hp), n__ = m - i ∧ Has E w__ [sgc, [Hp.one pb (.cells #[(.bool dc.p.off), (.bool dc.p.armed), (.int .i64 dc.p.left), (.int .i64 dc.p.uses)] 101 (0, 0))], R] ∧ (i ≤ m) ∧ (DevAt pb sgc db dc.la dc.lo) ∧ (dc.p = ⟨false, false, p.left - i, p.uses + i⟩) ∧ (Few dc.p (k + i)) ∧ (dc.la = (List.replicate m blankS)) ∧ (LoOk dc.lo dc.la.length) ∧ (nowS dc.la dc.lo = (List.replicate m blankS)) ∧ r__ 0 = (.pointer (some ⟨db, 0, none⟩)) ∧ r__ 1 = (.int .i64 n) ∧ r__ 6 = (.int .i64 (0 : Int)) ∧ r__ 14 = (.bool (decide ((0 : Int) ≠ 0))) ∧ r__ 17 = (.int .i64 (((List.replicate m blankS).length : Nat) : Int)) ∧ r__ 18 = (.int .i64 (i : Int))
    refine c_loop I16 _ ⟨0, (Dv.mk p (List.replicate m blankS) []), sg, rfl, hH14, Nat.zero_le _, hd, (by obtain ⟨a_, b_, c_, d_⟩ := p; obtain ⟨h1_, h2_⟩ := hcal; cases h1_; cases h2_; simp), hf, rfl, LoOk.nil _, now_nil _, rfl, rfl, rfl, rfl, rfl, rfl⟩ ?_
    rintro n_ r19 w17 ⟨i, dc, sgc, rfl, hH18, hi, hdc, hpc, hcc, hac, hlc, hwc, e15_0, e15_1, e15_6, e15_14, e15_17, e15_18⟩
    refine wp_seq_k fun K20 hK20 => ?_
    refine c_region ?_
    refine s_op (o_lss (a := (i : Int)) (b := (((List.replicate m blankS).length : Nat) : Int)) e15_18 e15_17 ?_)
    refine s_nil ?_
    refine t_norm (hK20 _ _ ?_)
    refine wp_seq_k fun K21 hK21 => ?_
    refine c_cond rfl (fun h22 => ?_) (fun h22 => ?_)
    · -- (i : Int) < (((List.replicate m blankS).length : Nat) : Int)
      refine wp_skip ?_
      refine t_norm (hK21 _ _ ?_)
      refine wp_seq_k fun K23 hK23 => ?_
      refine wp_block ?_
      refine wp_seq_k fun K24 hK24 => ?_
      refine c_region ?_
      refine s_op (o_move (v := (.int .i64 (i : Int))) e15_18 ?_)
      refine s_op (o_assign (v := (.int .i64 (i : Int))) rfl ?_)
      refine s_nil ?_
      refine t_norm (hK24 _ _ ?_)
      refine wp_seq_k fun K25 hK25 => ?_
      refine c_region ?_
      refine s_op (o_move (v := (.pointer (some ⟨db, 0, none⟩))) e15_0 ?_)
      refine s_op (o_move (v := (.int .i64 (i : Int))) rfl ?_)
      refine s_op (o_callf (vs := #[(.pointer (some ⟨db, 0, none⟩)), (.int .i64 (i : Int)), (.slice none 0 0)]) ca52 rfl (args3 rfl rfl rfl) (dv_wr (d := dc) ((hH18.front 1 rfl).front 1 rfl).all2 hdc (hcc.ok (by omega)) (by rw [hac, List.length_replicate]; exact hm) (i : Int) (l := ([] : List Bs)) (sl_nil 1) (s := ([] : Bs)) rfl (by simp) (by simp)) ?_)
      rintro _ w30 ⟨sg26, rfl, hd27, hX28⟩
      refine ⟨_, rfl, ?_⟩
      have hH29 : Has E w30 [sg26, [Hp.one pb (.cells #[(.bool (dc.wr (i : Int) ([] : Bs)).p.off), (.bool (dc.wr (i : Int) ([] : Bs)).p.armed), (.int .i64 (dc.wr (i : Int) ([] : Bs)).p.left), (.int .i64 (dc.wr (i : Int) ([] : Bs)).p.uses)] 101 (0, 0))], R] := hX28.of_all2
      refine s_op (o_assign (v := (.int .i64 (dc.wrE (i : Int) ([] : Bs)))) rfl ?_)
      refine s_nil ?_
      refine t_norm (hK25 _ _ ?_)
      refine wp_seq_k fun K31 hK31 => ?_
      refine c_region ?_
      refine s_op (o_move (v := (.int .i64 (dc.wrE (i : Int) ([] : Bs)))) rfl ?_)
      refine s_op (o_neq (a := dc.wrE (i : Int) ([] : Bs)) (b := 0) rfl rfl ?_)
      refine s_nil ?_
      refine t_norm (hK31 _ _ ?_)
      refine c_cond rfl (fun h32 => ?_) (fun h32 => ?_)
      · -- dc.wrE (i : Int) ([] : Bs) ≠ 0
        exact absurd (fm_e hpc hac (by omega)) h32
      · -- not: dc.wrE (i : Int) ([] : Bs) ≠ 0
        refine wp_skip ?_
        refine b_norm ?_
        refine t_norm (hK23 _ _ ?_)
        refine c_region ?_
        refine s_op (o_add (a := (i : Int)) (b := 1) e15_18 rfl (w64 (by omega) (by omega)) ?_)
        refine s_op (o_move (v := (.int .i64 ((i : Int) + 1))) rfl ?_)
        refine s_nil ?_
        refine t_norm ⟨m - (i + 1), _, rfl, ?_, ?_⟩
        · omega
        · exact ⟨(i + 1), (dc.wr (i : Int) ([] : Bs)), sg26, rfl, hH29, (by omega), (hd27), (fm_p hpc), (hcc.use), (hac), (hlc.write _ _ _), (fm_now hpc hac hwc (by omega)), e15_0, e15_1, e15_6, e15_14, e15_17, rfl⟩
    · -- not: (i : Int) < (((List.replicate m blankS).length : Nat) : Int)
      refine wp_exit ?_
      refine t_exit (t_exit (x_in (?_)))
      refine t_norm (hK9 _ _ ?_)
      refine wp_seq_k fun K33 hK33 => ?_
      refine wp_seq_k fun K34 hK34 => ?_
      refine c_region ?_
      refine s_op (o_move (v := (.pointer (some ⟨db, 0, none⟩))) e15_0 ?_)
      refine s_op (o_callf (vs := #[(.pointer (some ⟨db, 0, none⟩))]) ca27 rfl (args1 rfl) (dv_sy (d := dc) ((hH18.front 1 rfl).front 1 rfl).all2 hdc (hcc.ok (by omega)) (by rw [hac, List.length_replicate]; exact hm) hlc) ?_)
      rintro _ w39 ⟨sg35, rfl, hd36, hX37⟩
      refine ⟨_, rfl, ?_⟩
      have hH38 : Has E w39 [sg35, [Hp.one pb (.cells #[(.bool dc.sy.p.off), (.bool dc.sy.p.armed), (.int .i64 dc.sy.p.left), (.int .i64 dc.sy.p.uses)] 101 (0, 0))], R] := hX37.of_all2
      refine s_op (o_assign (v := (.int .i64 dc.syE)) rfl ?_)
      refine s_nil ?_
      refine t_norm (hK34 _ _ ?_)
      refine wp_seq_k fun K40 hK40 => ?_
      refine c_region ?_
      refine s_op (o_move (v := (.int .i64 dc.syE)) rfl ?_)
      refine s_op (o_neq (a := dc.syE) (b := 0) rfl rfl ?_)
      refine s_nil ?_
      refine t_norm (hK40 _ _ ?_)
      refine c_cond rfl (fun h41 => ?_) (fun h41 => ?_)
      · -- dc.syE ≠ 0
        exact absurd (fm_sy hpc) h41
      · -- not: dc.syE ≠ 0
        refine wp_skip ?_
        refine t_norm (hK33 _ _ ?_)
        refine wp_seq_k fun K42 hK42 => ?_
        refine c_region ?_
        refine s_op (o_move (v := (.pointer (some ⟨db, 0, none⟩))) e15_0 ?_)
        refine s_op (o_move (v := (.int .i64 n)) e15_1 ?_)
        refine s_op (o_sight (v := (.agg #[(.pointer (some ⟨db, 0, none⟩)), (.int .i64 n)])) (fun _ => by kernel_rfl) ?_)
        refine s_op (o_box (cs := #[(.pointer (some ⟨db, 0, none⟩)), (.int .i64 n)]) rfl rfl hH38 fun b43 w44 hH45 => ?_)
        refine s_op (o_assign (v := (.pointer (some ⟨b43, 0, none⟩))) rfl ?_)
        refine s_op (o_assign (v := (.int .i64 0)) rfl ?_)
        refine s_nil ?_
        refine t_norm (hK42 _ _ ?_)
        refine wp_ret ?_
        refine c_ret2 Tryz.results13  (v := (.pointer (some ⟨b43, 0, none⟩))) rfl (x := (.int .i64 0)) rfl ?_
        have ei_ : i = m := by omega
        obtain ⟨q1_, q2_, q3_⟩ := fm_end hpc hac hlc hwc
        have hd_ := hd36
        rw [q2_, q3_] at hd_
        have hH_ := hH45
        rw [q1_, ei_] at hH_
        exact ⟨_, _, rfl, hd_, hH_⟩
end Go.Q
namespace Go.Q
open Go.RowKit
section
variable {P : Program} {ρ : Operand → Value} {E w : World} {ss : List (List Hp)} {K : Value → World → Prop} {dst : Option Tmp} {T : TypeId} {pos : String} {after : Array Edge} {g : Option (Nat × Bool)}
theorem strCells_S (l : List UInt8) : Lib.strCells ⟨l.toArray⟩ = l.map bV := rfl
theorem o_appstr {x y : Operand} {t u e : TypeId} {v : Value} {n : Nat} {cs : List Value} {hs : List Hp} {l : List UInt8} (ht : P.underlying t = some (.slice e)) (hu : P.underlying u = some .string) (hi : TI P e (.int .u8 0) 1 1)
    (hx : ρ x = v) (ho : Own e 1 v n cs hs) (hy : ρ y = S l) (H : Has E w (hs :: ss)) (hb : n + l.length ≤ 140737488355328)
    (hK : ∀ v' hs' w', Own e 1 v' (n + l.length) (cs ++ l.map bV) hs' → (v = .slice none 0 0 → l = [] → v' = .slice none 0 0) → Has E w' (hs' :: ss) → K v' w') :
    OK P ⟨dst, .call ⟨.builtin .append, #[x, y], #[t, u]⟩, T, pos, after, g⟩ ρ w K := by
  obtain ⟨i, hi, hiz, hisz, hiby⟩ := hi
  have hsz : (⟨l.toArray⟩ : ByteArray).size = l.length := by simp [ByteArray.size]
  have hrow := ho.row H
  obtain ⟨v', w', hr, ho', hg, hnil⟩ := Lib.run_append_own_string w 0 t u T e i ht hu hi hiz hisz hiby v n cs hrow ⟨l.toArray⟩ (by rw [hsz]; unfold maxLen; omega) (by rw [hsz]; omega) (Nat.zero_le _)
  have hloc : v'.ownBlock = v.ownBlock ∨ v'.ownBlock = some w.heap.size := by
    obtain ⟨hlc, ⟨rfl, rfl, rfl⟩ | ⟨b, cap, cur, rfl, rfl, hnc, hcm, hcs, htake⟩⟩ := ho
    · by_cases hm : l.length = 0
      · exact .inl (by rw [hnil.2 ⟨rfl, by rw [hsz]; exact hm⟩])
      · have hr2 := run_append_nil_string (P := P) w t u T e i (.int .u8 0) ht hu hi hiz ⟨l.toArray⟩ (by rw [hsz]; omega) (by rw [hsz]; omega) (by rw [hsz, hiby]; omega)
        rw [hr2] at hr
        injection hr with e1 e2
        exact .inr (by rw [← e1]; rfl)
    · have hg0 : w.heap[b]? = some (.cells cur e (0, 0)) := H.at (by simp) (Hp.one_at _ _)
      by_cases hroom : n + (⟨l.toArray⟩ : ByteArray).size ≤ cap
      · have hr2 := Lib.run_append_room_string (P := P) w t u T e i ht hu hi hisz b n cap cur hg0 ⟨l.toArray⟩ hroom (by omega)
        rw [hr2] at hr
        injection hr with e1 e2
        exact .inl (by rw [← e1]; rfl)
      · have holds : ∀ j x, cs[j]? = some x → w.cell? ((⟨b, 0, none⟩ : Addr).add j) = some x := hrow.cells (g := b) rfl
        have hr2 := Lib.run_append_grow_string (P := P) w t u T e i (.int .u8 0) ht hu hi hiz ⟨b, 0, none⟩ n cap cs (by rw [hisz]; simpa using hlc) holds ⟨l.toArray⟩ (by omega) (by rw [hsz]; omega) (by rw [hiby]; exact growslice_fits (by omega) (by rw [hsz]; omega))
        rw [hr2] at hr
        injection hr with e1 e2
        exact .inr (by rw [← e1]; rfl)
  rw [hsz, strCells_S] at ho'
  obtain ⟨hs', hown, hH⟩ := ho.turn H ho' hg hloc
  refine o_call_builtin (v := v') (w' := w') ?_ (hK v' hs' w' hown (fun h1 h2 => hnil.2 ⟨h1, by rw [h2]; rfl⟩) hH)
  have hyy : ρ y = .string ⟨l.toArray⟩ := hy
  simp only [hx, hyy, builtin, List.map_toArray, List.map_cons, List.map_nil, Sem.run_bind, hr, Result.andThen_ok, Sem.run_pure]
/-- unsafe.SliceData of no row, of a row -/
theorem o_uSDnil {x : Operand} {t : TypeId} {n c : Nat} (hx : ρ x = .slice none n c) (h : K (.pointer none) w) : OK P ⟨dst, .call ⟨.builtin .unsafeSliceData, #[x], #[t]⟩, T, pos, after, g⟩ ρ w K := by
  refine o_call_builtin (v := .pointer none) (w' := w) ?_ h
  simp [hx, builtin, Lib.run_unsafeSliceData_nil]
theorem o_uSD {x : Operand} {t : TypeId} {a : Addr} {n c : Nat} (hx : ρ x = .slice (some a) n c) (hc : c ≠ 0) (h : K (.pointer (some a)) w) : OK P ⟨dst, .call ⟨.builtin .unsafeSliceData, #[x], #[t]⟩, T, pos, after, g⟩ ρ w K := by
  refine o_call_builtin (v := .pointer (some a)) (w' := w) ?_ h
  simp [hx, builtin, Lib.run_unsafeSliceData_row w _ _ a n c hc]
theorem Has.freeze {E w : World} {hs : List Hp} {ss : List (List Hp)} {b : Nat} {o : Obj} (H : Has E w (hs :: ss)) (hh : hs = [Hp.one b o]) (n : Nat) : Has E (w.freeze ⟨b, 0, none⟩ n) ss := by
  subst hh
  have h0 : Has0 E w ([Hp.one b o] ++ ss.flatten) := by simpa [Has] using H
  have h1 : Has0 E (w.freeze ⟨b, 0, none⟩ n) ([] ++ ss.flatten) := by
    unfold World.freeze
    split
    · exact h0.weak (by simp)
    · refine Has0.write (an := [Hp.one b o]) (an' := []) h0 rfl rfl rfl (by simp) (fun k _ => .inl (by simp)) (by simp) fun k hk hn => ?_
      have hne : b ≠ k := fun e => by
        have := hn _ (List.mem_singleton.2 rfl)
        rw [← e, Hp.one_at] at this; cases this
      simp only [Array.getElem?_modify]
      rw [if_neg (fun e => hne e)]
  simpa [Has] using h1
/-- unsafe.String of a row's bytes -/
theorem o_uStrNil {x y : Operand} {t u : TypeId} {p : Option Addr} (hx : ρ x = .pointer p) (hy : ρ y = .int .i64 0) (h : K (S []) w) : OK P ⟨dst, .call ⟨.builtin .unsafeString, #[x, y], #[t, u]⟩, T, pos, after, g⟩ ρ w K := by
  refine o_call_builtin (v := S []) (w' := w) ?_ h
  simp only [hx, hy, builtin, List.map_toArray, List.map_cons, List.map_nil, Sem.run_bind, Lib.run_unsafeString_none, Result.andThen_ok, Sem.run_pure]; rfl
theorem o_uStr {x y : Operand} {t u e : TypeId} {b cap : Nat} {l : List UInt8} {hs : List Hp} (ht : P.underlying t = some (.pointer e)) (hc : P.cellsOf e = 1) (hx : ρ x = .pointer (some ⟨b, 0, none⟩)) (hy : ρ y = .int .i64 (l.length : Int))
    (ho : Own e 1 (.slice (some ⟨b, 0, none⟩) l.length cap) l.length (l.map bV) hs) (h0 : l ≠ []) (H : Has E w (hs :: ss)) (hK : ∀ w', Has E w' ss → K (S l) w') : OK P ⟨dst, .call ⟨.builtin .unsafeString, #[x, y], #[t, u]⟩, T, pos, after, g⟩ ρ w K := by
  have hrow := ho.row H
  have hcells := hrow.cells (g := b) rfl
  obtain ⟨hlc, ⟨h, _⟩ | ⟨b', cap', cur, h, hhs, hnc, hcm, hcs, _⟩⟩ := ho
  · cases h
  · cases h
    have hg : w.heap[b]? = some (.cells cur e (0, 0)) := H.at (h := Hp.one b (.cells cur e (0, 0))) (by rw [hhs]; simp) (Hp.one_at _ _)
    have hr := Lib.run_unsafeString_row (P := P) w t u T e ht hc b cur.size (by simp [World.shape?, hg]) l h0 (by omega) (by unfold maxLen at hcm; omega) (fun j x hj => hcells j _ (by rw [List.getElem?_map, hj]; rfl))
    refine o_call_builtin (v := S l) (w' := w.freeze ⟨b, 0, none⟩ l.length) ?_ (hK _ (H.freeze hhs _))
    simp only [hx, hy, builtin, List.map_toArray, List.map_cons, List.map_nil, Sem.run_bind, hr, Result.andThen_ok, Sem.run_pure]; rfl
/-- a pointer as unsafe.Pointer, and back -/
theorem shape_of {E w : World} {ss : List (List Hp)} {b : Nat} {cs : Array Value} {T' : TypeId} {f : Nat × Nat} (H : Has E w ss) (hL : [Hp.one b (.cells cs T' f)] ⊆ ss.flatten) : w.shape? b = some (T', cs.size) := by
  have hg : w.heap[b]? = some (.cells cs T' f) := H.at (hL (List.mem_singleton.2 rfl)) (Hp.one_at _ _)
  simp [World.shape?, hg]
theorem o_toUnsafe {x : Operand} {t u te T' : TypeId} {b : Nat} {cs : Array Value} {f : Nat × Nat} {z : Value} {sz by_ : Nat} (ht : P.underlying t = some (.pointer te)) (hu : P.underlying u = some .unsafePointer) (hj : TI P te z sz by_) (hjs : sz ≠ 0) (hx : ρ x = .pointer (some ⟨b, 0, none⟩))
    (H : Has E w ss) (hL : [Hp.one b (.cells cs T' f)] ⊆ ss.flatten) (hc : 0 < cs.size) (h : K (.pointer (some ⟨b, 0, none⟩)) w) : OK P ⟨dst, .convert t u x, T, pos, after, g⟩ ρ w K := by
  obtain ⟨j, hj, _, hsz, _⟩ := hj
  exact OK.val (run_v (by rw [hx]; exact Lib.run_to_unsafe w ⟨b, 0, none⟩ ht hu hj (by rw [hsz]; exact hjs) (shape_of H hL) hc)) h
theorem o_fromUnsafe {x : Operand} {t u te T' : TypeId} {b : Nat} {cs : Array Value} {f : Nat × Nat} {z : Value} {sz by_ : Nat} (ht : P.underlying t = some .unsafePointer) (hu : P.underlying u = some (.pointer te)) (hj : TI P te z sz by_) (hx : ρ x = .pointer (some ⟨b, 0, none⟩))
    (H : Has E w ss) (hL : [Hp.one b (.cells cs T' f)] ⊆ ss.flatten) (hl : liesAt P P.depth T' (cs.size / P.cellsOf T') 0 te 1 = true) (h : K (.pointer (some ⟨b, 0, none⟩)) w) : OK P ⟨dst, .convert t u x, T, pos, after, g⟩ ρ w K := by
  obtain ⟨j, hj, _⟩ := hj
  exact OK.val (run_v (by rw [hx]; exact Lib.run_from_unsafe w ⟨b, 0, none⟩ ht hu hj (shape_of H hL) hl)) h
theorem o_extern {c x : Operand} {f : FuncId} {ts : Array TypeId} {v v' : Value} (hv : ρ c = .func (.func f) #[] #[]) (hx : ρ x = v) (hr : (callFunc f #[v]).run P w = .ok (.value v') w) (h : K v' w) :
    OK P ⟨dst, .call ⟨.value c, #[x], ts⟩, T, pos, after, g⟩ ρ w K := by
  refine OK.val ?_ h
  simp [execOp, resolve, hv, Deferred.ofValue, invoke, hx, hr]
theorem o_pneqSame {x y : Operand} {t te t2 : TypeId} {z : Value} {sz by_ : Nat} {a : Addr} (ht : P.underlying t = some (.pointer te)) (hj : TI P te z sz by_) (hx : ρ x = .pointer (some a)) (hy : ρ y = .pointer (some a)) (h : K (.bool false) w) :
    OK P ⟨dst, .binOp .neq t x y t2, T, pos, after, g⟩ ρ w K := by
  obtain ⟨j, hj, _⟩ := hj
  exact OK.val (run_v (by rw [hx, hy]; exact Lib.run_neq_ptr_same w a ht hj)) h
end
end Go.Q
namespace Go.Q
open Go.Proofs
set_option linter.unusedVariables false
set_option maxRecDepth 100000
attribute [local irreducible] wpList OK Code.wp
set_option maxHeartbeats 4000000 in
theorem cc_f {E w : World} {R : List Hp} {bb : Nat} {v : Value} (hH : Has E w [[Hp.one bb (.cells #[(.pointer none), v] 145 (0, 0))], R]) :
    Calls Tryz.prog 127 #[(.pointer (some ⟨bb, 0, none⟩))] w fun e w' => e = .returned (.tuple #[]) ∧ Has E w' [[Hp.one bb (.cells #[(.pointer (some ⟨bb, 0, none⟩)), v] 145 (0, 0))], R] := by
  refine c_enter (args := [(.pointer (some ⟨bb, 0, none⟩))]) Tryz.func127 rfl Tryz.ntmps127 (by simp) ?_
  refine wp_seq_k fun K1 hK1 => ?_
  refine c_region ?_
  refine s_op (o_move (v := (.pointer (some ⟨bb, 0, none⟩))) rfl ?_)
  refine s_op (o_nilCheck rfl ?_)
  refine s_op (o_fieldAddr (k := 0) (fun _ => by kernel_rfl) rfl ?_)
  refine s_op (o_load1 (v := (.pointer none)) Tryz.underlying143 rfl rfl hH (seg_sub 0 rfl) (CellsAt.one rfl) ?_)
  refine s_op (o_pnil (p := none) Tryz.underlying143 rfl rfl ?_)
  refine s_nil ?_
  refine t_norm (hK1 _ _ ?_)
  refine c_true rfl rfl ?_
  refine c_region ?_
  refine s_op (o_move (v := (.pointer (some ⟨bb, 0, none⟩))) rfl ?_)
  refine s_op (o_move (v := (.pointer (some ⟨bb, 0, none⟩))) rfl ?_)
  refine s_op (o_toUnsafe Tryz.underlying143 Tryz.underlying195 ti145 (by decide) rfl hH (seg_sub 0 rfl) (Nat.zero_lt_succ 1) ?_)
  refine s_op (o_extern (v' := (.pointer (some ⟨bb, 0, none⟩))) rfl rfl (by rw [run_callFunc_extern Tryz.func155 (by kernel_rfl) (by kernel_rfl) (by kernel_rfl) (e := Extern.AbiNoEscape.same) (by kernel_rfl), Lib.run_noEscape]; rfl) ?_)
  refine s_op (o_fromUnsafe Tryz.underlying195 Tryz.underlying143 ti145 rfl hH (seg_sub 0 rfl) (by kernel_rfl) ?_)
  refine s_op (o_nilCheck rfl ?_)
  refine s_op (o_fieldAddr (k := 0) (fun _ => by kernel_rfl) rfl ?_)
  refine s_eff (o_store1 (c' := #[(.pointer (some ⟨bb, 0, none⟩)), v]) ti143 rfl rfl rfl (by simp) rfl (hH.front 0 rfl) fun w2 hH3 => ?_)
  refine s_nil ?_
  refine c_end0 Tryz.results127  ?_
  exact ⟨rfl, hH3⟩
set_option maxHeartbeats 4000000 in
theorem cc_u {E w : World} {R : List Hp} {bb : Nat} {v : Value} (hH : Has E w [[Hp.one bb (.cells #[(.pointer (some ⟨bb, 0, none⟩)), v] 145 (0, 0))], R]) :
    Calls Tryz.prog 127 #[(.pointer (some ⟨bb, 0, none⟩))] w fun e w' => e = .returned (.tuple #[]) ∧ Has E w' [[Hp.one bb (.cells #[(.pointer (some ⟨bb, 0, none⟩)), v] 145 (0, 0))], R] := by
  refine c_enter (args := [(.pointer (some ⟨bb, 0, none⟩))]) Tryz.func127 rfl Tryz.ntmps127 (by simp) ?_
  refine wp_seq_k fun K1 hK1 => ?_
  refine c_region ?_
  refine s_op (o_move (v := (.pointer (some ⟨bb, 0, none⟩))) rfl ?_)
  refine s_op (o_nilCheck rfl ?_)
  refine s_op (o_fieldAddr (k := 0) (fun _ => by kernel_rfl) rfl ?_)
  refine s_op (o_load1 (v := (.pointer (some ⟨bb, 0, none⟩))) Tryz.underlying143 rfl rfl hH (seg_sub 0 rfl) (CellsAt.one rfl) ?_)
  refine s_op (o_pnil (p := some _) Tryz.underlying143 rfl rfl ?_)
  refine s_nil ?_
  refine t_norm (hK1 _ _ ?_)
  refine c_false rfl rfl ?_
  refine wp_seq_k fun K2 hK2 => ?_
  refine c_region ?_
  refine s_op (o_move (v := (.pointer (some ⟨bb, 0, none⟩))) rfl ?_)
  refine s_op (o_nilCheck rfl ?_)
  refine s_op (o_fieldAddr (k := 0) (fun _ => by kernel_rfl) rfl ?_)
  refine s_op (o_load1 (v := (.pointer (some ⟨bb, 0, none⟩))) Tryz.underlying143 rfl rfl hH (seg_sub 0 rfl) (CellsAt.one rfl) ?_)
  refine s_op (o_move (v := (.pointer (some ⟨bb, 0, none⟩))) rfl ?_)
  refine s_op (o_pneqSame Tryz.underlying143 ti145 rfl rfl ?_)
  refine s_nil ?_
  refine t_norm (hK2 _ _ ?_)
  refine c_false rfl rfl ?_
  refine wp_skip ?_
  refine c_end0 Tryz.results127  ?_
  exact ⟨rfl, hH⟩
set_option maxHeartbeats 4000000 in
theorem ws_f {E w : World} {R hs : List Hp} {bb : Nat} {v : Value} {l : List UInt8} (hH : Has E w [hs, [Hp.one bb (.cells #[(.pointer none), v] 145 (0, 0))], R]) (ho : Own 5 1 v l.length (l.map bV) hs) (hnil : l = [] → v = .slice none 0 0) (s : List UInt8) (hb : l.length + s.length ≤ 140737488355328) :
    Calls Tryz.prog 103 #[(.pointer (some ⟨bb, 0, none⟩)), (S s)] w fun e w' => ∃ v' hs', e = .returned (.tuple #[.int .i64 (s.length : Int), .nilIface]) ∧ Own 5 1 v' (l ++ s).length ((l ++ s).map bV) hs' ∧ (l ++ s = [] → v' = .slice none 0 0) ∧ Has E w' [hs', [Hp.one bb (.cells #[(.pointer (some ⟨bb, 0, none⟩)), v'] 145 (0, 0))], R] := by
  refine c_enter (args := [(.pointer (some ⟨bb, 0, none⟩)), (S s)]) Tryz.func103 rfl Tryz.ntmps103 (by simp) ?_
  refine wp_seq_k fun K1 hK1 => ?_
  refine c_region ?_
  refine s_op (o_assign (v := (.int .i64 0)) rfl ?_)
  refine s_op (o_assign (v := Value.nilIface) rfl ?_)
  refine s_nil ?_
  refine t_norm (hK1 _ _ ?_)
  refine wp_seq_k fun K2 hK2 => ?_
  refine c_region ?_
  refine s_op (o_move (v := (.pointer (some ⟨bb, 0, none⟩))) rfl ?_)
  refine s_op (o_callf (vs := #[(.pointer (some ⟨bb, 0, none⟩))]) ca127 rfl (args1 rfl) (cc_f (hH.front 1 rfl).all1) ?_)
  rintro _ w5 ⟨rfl, hX3⟩
  refine ⟨_, rfl, ?_⟩
  have hH4 : Has E w5 [[Hp.one bb (.cells #[(.pointer (some ⟨bb, 0, none⟩)), v] 145 (0, 0))], hs, R] := hX3.of_all1
  refine s_nil ?_
  refine t_norm (hK2 _ _ ?_)
  refine wp_seq_k fun K6 hK6 => ?_
  refine c_region ?_
  refine s_op (o_move (v := (.pointer (some ⟨bb, 0, none⟩))) rfl ?_)
  refine s_op (o_move (v := (.pointer (some ⟨bb, 0, none⟩))) rfl ?_)
  refine s_op (o_nilCheck rfl ?_)
  refine s_op (o_fieldAddr (k := 1) (fun _ => by kernel_rfl) rfl ?_)
  refine s_op (o_load1 (v := v) Tryz.underlying54 rfl rfl hH4 (seg_sub 0 rfl) (CellsAt.one rfl) ?_)
  refine s_op (o_move (v := (S s)) rfl ?_)
  refine s_op (o_appstr Tryz.underlying54 Tryz.underlying9 ti5 rfl ho rfl (hH4.front 1 rfl) (by omega) fun v7 s8 w11 ho9 hn10 hH12 => ?_)
  have ho9 : Own 5 1 v7 (l ++ s).length ((l ++ s).map bV) s8 := by rw [List.length_append, List.map_append]; exact ho9
  refine s_op (o_nilCheck rfl ?_)
  refine s_op (o_fieldAddr (k := 1) (fun _ => by kernel_rfl) rfl ?_)
  refine s_eff (o_store1 (c' := #[(.pointer (some ⟨bb, 0, none⟩)), v7]) ti54 rfl rfl ho9.one (by simp) rfl (hH12.front 1 rfl) fun w13 hH14 => ?_)
  refine s_nil ?_
  refine t_norm (hK6 _ _ ?_)
  refine wp_seq_k fun K15 hK15 => ?_
  refine c_region ?_
  refine s_op (o_move (v := (S s)) rfl ?_)
  refine s_op (o_slen Tryz.underlying9 rfl ?_)
  refine s_op (o_assign (v := (.int .i64 (s.length : Int))) rfl ?_)
  refine s_op (o_assign (v := Value.nilIface) rfl ?_)
  refine s_nil ?_
  refine t_norm (hK15 _ _ ?_)
  refine wp_ret ?_
  refine c_ret2 Tryz.results103  (v := (.int .i64 (s.length : Int))) rfl (x := Value.nilIface) rfl ?_
  have hH16 : Has E w13 [s8, [Hp.one bb (.cells #[(.pointer (some ⟨bb, 0, none⟩)), v7] 145 (0, 0))], R] := (((hH14.front 2 rfl).front 1 rfl).front 2 rfl).first 3 rfl
  exact ⟨_, _, rfl, ho9, fun h => hn10 (hnil (List.append_eq_nil_iff.1 h).1) (List.append_eq_nil_iff.1 h).2, hH16⟩
set_option maxHeartbeats 4000000 in
theorem ws_u {E w : World} {R hs : List Hp} {bb : Nat} {v : Value} {l : List UInt8} (hH : Has E w [hs, [Hp.one bb (.cells #[(.pointer (some ⟨bb, 0, none⟩)), v] 145 (0, 0))], R]) (ho : Own 5 1 v l.length (l.map bV) hs) (hnil : l = [] → v = .slice none 0 0) (s : List UInt8) (hb : l.length + s.length ≤ 140737488355328) :
    Calls Tryz.prog 103 #[(.pointer (some ⟨bb, 0, none⟩)), (S s)] w fun e w' => ∃ v' hs', e = .returned (.tuple #[.int .i64 (s.length : Int), .nilIface]) ∧ Own 5 1 v' (l ++ s).length ((l ++ s).map bV) hs' ∧ (l ++ s = [] → v' = .slice none 0 0) ∧ Has E w' [hs', [Hp.one bb (.cells #[(.pointer (some ⟨bb, 0, none⟩)), v'] 145 (0, 0))], R] := by
  refine c_enter (args := [(.pointer (some ⟨bb, 0, none⟩)), (S s)]) Tryz.func103 rfl Tryz.ntmps103 (by simp) ?_
  refine wp_seq_k fun K1 hK1 => ?_
  refine c_region ?_
  refine s_op (o_assign (v := (.int .i64 0)) rfl ?_)
  refine s_op (o_assign (v := Value.nilIface) rfl ?_)
  refine s_nil ?_
  refine t_norm (hK1 _ _ ?_)
  refine wp_seq_k fun K2 hK2 => ?_
  refine c_region ?_
  refine s_op (o_move (v := (.pointer (some ⟨bb, 0, none⟩))) rfl ?_)
  refine s_op (o_callf (vs := #[(.pointer (some ⟨bb, 0, none⟩))]) ca127 rfl (args1 rfl) (cc_u (hH.front 1 rfl).all1) ?_)
  rintro _ w5 ⟨rfl, hX3⟩
  refine ⟨_, rfl, ?_⟩
  have hH4 : Has E w5 [[Hp.one bb (.cells #[(.pointer (some ⟨bb, 0, none⟩)), v] 145 (0, 0))], hs, R] := hX3.of_all1
  refine s_nil ?_
  refine t_norm (hK2 _ _ ?_)
  refine wp_seq_k fun K6 hK6 => ?_
  refine c_region ?_
  refine s_op (o_move (v := (.pointer (some ⟨bb, 0, none⟩))) rfl ?_)
  refine s_op (o_move (v := (.pointer (some ⟨bb, 0, none⟩))) rfl ?_)
  refine s_op (o_nilCheck rfl ?_)
  refine s_op (o_fieldAddr (k := 1) (fun _ => by kernel_rfl) rfl ?_)
  refine s_op (o_load1 (v := v) Tryz.underlying54 rfl rfl hH4 (seg_sub 0 rfl) (CellsAt.one rfl) ?_)
  refine s_op (o_move (v := (S s)) rfl ?_)
  refine s_op (o_appstr Tryz.underlying54 Tryz.underlying9 ti5 rfl ho rfl (hH4.front 1 rfl) (by omega) fun v7 s8 w11 ho9 hn10 hH12 => ?_)
  have ho9 : Own 5 1 v7 (l ++ s).length ((l ++ s).map bV) s8 := by rw [List.length_append, List.map_append]; exact ho9
  refine s_op (o_nilCheck rfl ?_)
  refine s_op (o_fieldAddr (k := 1) (fun _ => by kernel_rfl) rfl ?_)
  refine s_eff (o_store1 (c' := #[(.pointer (some ⟨bb, 0, none⟩)), v7]) ti54 rfl rfl ho9.one (by simp) rfl (hH12.front 1 rfl) fun w13 hH14 => ?_)
  refine s_nil ?_
  refine t_norm (hK6 _ _ ?_)
  refine wp_seq_k fun K15 hK15 => ?_
  refine c_region ?_
  refine s_op (o_move (v := (S s)) rfl ?_)
  refine s_op (o_slen Tryz.underlying9 rfl ?_)
  refine s_op (o_assign (v := (.int .i64 (s.length : Int))) rfl ?_)
  refine s_op (o_assign (v := Value.nilIface) rfl ?_)
  refine s_nil ?_
  refine t_norm (hK15 _ _ ?_)
  refine wp_ret ?_
  refine c_ret2 Tryz.results103  (v := (.int .i64 (s.length : Int))) rfl (x := Value.nilIface) rfl ?_
  have hH16 : Has E w13 [s8, [Hp.one bb (.cells #[(.pointer (some ⟨bb, 0, none⟩)), v7] 145 (0, 0))], R] := (((hH14.front 2 rfl).front 1 rfl).front 2 rfl).first 3 rfl
  exact ⟨_, _, rfl, ho9, fun h => hn10 (hnil (List.append_eq_nil_iff.1 h).1) (List.append_eq_nil_iff.1 h).2, hH16⟩
/-- A builder that holds these bytes. -/
def Bld (b : Nat) (l : List UInt8) (sg : List Hp) : Prop := ∃ a v hs, sg = hs ++ [Hp.one b (.cells #[a, v] 145 (0, 0))] ∧ (a = .pointer none ∨ a = .pointer (some ⟨b, 0, none⟩)) ∧ Own 5 1 v l.length (l.map bV) hs ∧ (l = [] → v = .slice none 0 0)
theorem Bld.new (b : Nat) : Bld b [] [Hp.one b (.cells #[.pointer none, .slice none 0 0] 145 (0, 0))] := ⟨_, _, [], rfl, .inl rfl, Own.nil 5 1, fun _ => rfl⟩
theorem bws {E w : World} {R sg : List Hp} {b : Nat} {l : List UInt8} (hH : Has E w [sg, R]) (hB : Bld b l sg) (s : List UInt8) (hb : l.length + s.length ≤ 140737488355328) :
    Calls Tryz.prog 103 #[.pointer (some ⟨b, 0, none⟩), S s] w fun e w' => ∃ sg', e = .returned (.tuple #[.int .i64 (s.length : Int), .nilIface]) ∧ Bld b (l ++ s) sg' ∧ Has E w' [sg', R] := by
  obtain ⟨a, v, hs, rfl, rfl | rfl, ho, hn⟩ := hB
  · exact (ws_f hH.open2 ho hn s hb).mono fun e w' ⟨v', hs', he, ho', hn', hH'⟩ => ⟨_, he, ⟨_, _, _, rfl, .inr rfl, ho', hn'⟩, hH'.close2⟩
  · exact (ws_u hH.open2 ho hn s hb).mono fun e w' ⟨v', hs', he, ho', hn', hH'⟩ => ⟨_, he, ⟨_, _, _, rfl, .inr rfl, ho', hn'⟩, hH'.close2⟩
end Go.Q
namespace Go.Q
open Go.Proofs
set_option linter.unusedVariables false
set_option maxRecDepth 100000
attribute [local irreducible] wpList OK Code.wp
set_option maxHeartbeats 4000000 in
theorem bsK_nil {E w : World} {R : List Hp} {bb : Nat} {a : Value} (hH : Has E w [[Hp.one bb (.cells #[a, (.slice none 0 0)] 145 (0, 0))], R]) :
    Calls Tryz.prog 104 #[(.pointer (some ⟨bb, 0, none⟩))] w fun e w' => e = .returned (S ([] : List UInt8)) ∧ Has E w' [[Hp.one bb (.cells #[a, (.slice none 0 0)] 145 (0, 0))], R] := by
  refine c_enter (args := [(.pointer (some ⟨bb, 0, none⟩))]) Tryz.func104 rfl Tryz.ntmps104 (by simp) ?_
  refine wp_seq_k fun K1 hK1 => ?_
  refine c_region ?_
  refine s_op (o_assign (v := (S ([] : List UInt8))) rfl ?_)
  refine s_nil ?_
  refine t_norm (hK1 _ _ ?_)
  refine wp_seq_k fun K2 hK2 => ?_
  refine Rest.region mixed (by kernel_rfl) ?_
  have hH3 : Has E { w with drawn := w.drawn + 1 } [[Hp.one bb (.cells #[a, (.slice none 0 0)] 145 (0, 0))], R] := Has0.drew hH _
  refine Rest.phaseA (fun w_ => Has E w_ [[Hp.one bb (.cells #[a, (.slice none 0 0)] 145 (0, 0))]]) 0 10 10 rfl (by decide) (by kernel_rfl) ?_
  refine a_op 0 rfl (by kernel_rfl) (fun w_ h_ => o_move (v := (.pointer (some ⟨bb, 0, none⟩))) rfl ⟨rfl, rfl⟩) ?_
  refine a_op 1 rfl (by kernel_rfl) (fun w_ h_ => o_nilCheck rfl ⟨rfl, rfl⟩) ?_
  refine a_op 2 rfl (by kernel_rfl) (fun w_ h_ => o_fieldAddr (k := 1) (fun _ => by kernel_rfl) rfl ⟨rfl, rfl⟩) ?_
  refine a_op 3 rfl (by kernel_rfl) (fun w_ h_ => o_load1 (v := (.slice none 0 0)) Tryz.underlying54 rfl rfl h_ (seg_sub 0 rfl) (CellsAt.one rfl) ⟨rfl, rfl⟩) ?_
  refine a_op 5 rfl (by kernel_rfl) (fun w_ h_ => o_move (v := (.pointer (some ⟨bb, 0, none⟩))) rfl ⟨rfl, rfl⟩) ?_
  refine a_op 6 rfl (by kernel_rfl) (fun w_ h_ => o_nilCheck rfl ⟨rfl, rfl⟩) ?_
  refine a_op 7 rfl (by kernel_rfl) (fun w_ h_ => o_fieldAddr (k := 1) (fun _ => by kernel_rfl) rfl ⟨rfl, rfl⟩) ?_
  refine a_op 8 rfl (by kernel_rfl) (fun w_ h_ => o_load1 (v := (.slice none 0 0)) Tryz.underlying54 rfl rfl h_ (seg_sub 0 rfl) (CellsAt.one rfl) ⟨rfl, rfl⟩) ?_
  refine a_op 9 rfl (by kernel_rfl) (fun w_ h_ => o_lenS Tryz.underlying54 rfl (sl_nil (L := []) 1) ⟨rfl, rfl⟩) ?_
  have hH4 : Has E { w with drawn := w.drawn + 1 } [[Hp.one bb (.cells #[a, (.slice none 0 0)] 145 (0, 0))]] := hH3.first 1 rfl
  refine a_w 4 rfl (by kernel_rfl) hH4 (o_uSDnil rfl ?_)
  have hH5 : Has E { w with drawn := w.drawn + 1 } [[Hp.one bb (.cells #[a, (.slice none 0 0)] 145 (0, 0))]] := hH3.first 1 rfl
  refine a_done (by kernel_rfl) hH5 ?_
  refine r_op 10 rfl (by kernel_rfl) (o_uStrNil rfl rfl ?_)
  refine r_op 11 rfl (by kernel_rfl) (o_assign (v := (S ([] : List UInt8))) rfl ?_)
  refine Rest.done (by kernel_rfl) ?_
  refine t_norm (hK2 _ _ ?_)
  refine wp_ret ?_
  refine c_ret1 Tryz.results104  (v := (S ([] : List UInt8))) rfl ?_
  exact ⟨rfl, hH3⟩
set_option maxHeartbeats 4000000 in
theorem bsK_row {E w : World} {R : List Hp} {bb : Nat} {a : Value} {g cap : Nat} {hs : List Hp} {l : List UInt8} (hH : Has E w [hs, [Hp.one bb (.cells #[a, (.slice (some ⟨g, 0, none⟩) l.length cap)] 145 (0, 0))], R]) (ho : Own 5 1 (.slice (some ⟨g, 0, none⟩) l.length cap) l.length (l.map bV) hs) (hne : l ≠ []) (hcap : cap ≠ 0) :
    Calls Tryz.prog 104 #[(.pointer (some ⟨bb, 0, none⟩))] w fun e w' => e = .returned (S l) ∧ Has E w' [[Hp.one bb (.cells #[a, (.slice (some ⟨g, 0, none⟩) l.length cap)] 145 (0, 0))], R] := by
  refine c_enter (args := [(.pointer (some ⟨bb, 0, none⟩))]) Tryz.func104 rfl Tryz.ntmps104 (by simp) ?_
  refine wp_seq_k fun K1 hK1 => ?_
  refine c_region ?_
  refine s_op (o_assign (v := (S ([] : List UInt8))) rfl ?_)
  refine s_nil ?_
  refine t_norm (hK1 _ _ ?_)
  refine wp_seq_k fun K2 hK2 => ?_
  refine Rest.region mixed (by kernel_rfl) ?_
  have hH3 : Has E { w with drawn := w.drawn + 1 } [hs, [Hp.one bb (.cells #[a, (.slice (some ⟨g, 0, none⟩) l.length cap)] 145 (0, 0))], R] := Has0.drew hH _
  refine Rest.phaseA (fun w_ => Has E w_ [[Hp.one bb (.cells #[a, (.slice (some ⟨g, 0, none⟩) l.length cap)] 145 (0, 0))]]) 0 10 10 rfl (by decide) (by kernel_rfl) ?_
  refine a_op 0 rfl (by kernel_rfl) (fun w_ h_ => o_move (v := (.pointer (some ⟨bb, 0, none⟩))) rfl ⟨rfl, rfl⟩) ?_
  refine a_op 1 rfl (by kernel_rfl) (fun w_ h_ => o_nilCheck rfl ⟨rfl, rfl⟩) ?_
  refine a_op 2 rfl (by kernel_rfl) (fun w_ h_ => o_fieldAddr (k := 1) (fun _ => by kernel_rfl) rfl ⟨rfl, rfl⟩) ?_
  refine a_op 3 rfl (by kernel_rfl) (fun w_ h_ => o_load1 (v := (.slice (some ⟨g, 0, none⟩) l.length cap)) Tryz.underlying54 rfl rfl h_ (seg_sub 0 rfl) (CellsAt.one rfl) ⟨rfl, rfl⟩) ?_
  refine a_op 5 rfl (by kernel_rfl) (fun w_ h_ => o_move (v := (.pointer (some ⟨bb, 0, none⟩))) rfl ⟨rfl, rfl⟩) ?_
  refine a_op 6 rfl (by kernel_rfl) (fun w_ h_ => o_nilCheck rfl ⟨rfl, rfl⟩) ?_
  refine a_op 7 rfl (by kernel_rfl) (fun w_ h_ => o_fieldAddr (k := 1) (fun _ => by kernel_rfl) rfl ⟨rfl, rfl⟩) ?_
  refine a_op 8 rfl (by kernel_rfl) (fun w_ h_ => o_load1 (v := (.slice (some ⟨g, 0, none⟩) l.length cap)) Tryz.underlying54 rfl rfl h_ (seg_sub 0 rfl) (CellsAt.one rfl) ⟨rfl, rfl⟩) ?_
  refine a_op 9 rfl (by kernel_rfl) (fun w_ h_ => o_lenS Tryz.underlying54 rfl ho.sl ⟨rfl, rfl⟩) ?_
  have hH4 : Has E { w with drawn := w.drawn + 1 } [[Hp.one bb (.cells #[a, (.slice (some ⟨g, 0, none⟩) l.length cap)] 145 (0, 0))]] := (hH3.front 1 rfl).first 1 rfl
  refine a_w 4 rfl (by kernel_rfl) hH4 (o_uSD (a := ⟨g, 0, none⟩) rfl hcap ?_)
  have hH5 : Has E { w with drawn := w.drawn + 1 } [[Hp.one bb (.cells #[a, (.slice (some ⟨g, 0, none⟩) l.length cap)] 145 (0, 0))]] := (hH3.front 1 rfl).first 1 rfl
  refine a_done (by kernel_rfl) hH5 ?_
  refine r_op 10 rfl (by kernel_rfl) (o_uStr Tryz.underlying172 (by kernel_rfl) rfl rfl ho hne hH3 fun w6 hH7 => ?_)
  refine r_op 11 rfl (by kernel_rfl) (o_assign (v := (S l)) rfl ?_)
  refine Rest.done (by kernel_rfl) ?_
  refine t_norm (hK2 _ _ ?_)
  refine wp_ret ?_
  refine c_ret1 Tryz.results104  (v := (S l)) rfl ?_
  exact ⟨rfl, hH7⟩
set_option maxHeartbeats 4000000 in
theorem blenb {E w : World} {R : List Hp} {bb n c : Nat} {a : Value} {p : Option Addr} (hH : Has E w [[Hp.one bb (.cells #[a, (.slice p n c)] 145 (0, 0))], R]) :
    Calls Tryz.prog 120 #[(.pointer (some ⟨bb, 0, none⟩))] w fun e w' => e = .returned (.int .i64 (n : Int)) ∧ Has E w' [[Hp.one bb (.cells #[a, (.slice p n c)] 145 (0, 0))], R] := by
  refine c_enter (args := [(.pointer (some ⟨bb, 0, none⟩))]) Tryz.func120 rfl Tryz.ntmps120 (by simp) ?_
  refine wp_seq_k fun K1 hK1 => ?_
  refine c_region ?_
  refine s_op (o_assign (v := (.int .i64 0)) rfl ?_)
  refine s_nil ?_
  refine t_norm (hK1 _ _ ?_)
  refine wp_seq_k fun K2 hK2 => ?_
  refine c_region ?_
  refine s_op (o_move (v := (.pointer (some ⟨bb, 0, none⟩))) rfl ?_)
  refine s_op (o_nilCheck rfl ?_)
  refine s_op (o_fieldAddr (k := 1) (fun _ => by kernel_rfl) rfl ?_)
  refine s_op (o_load1 (v := (.slice p n c)) Tryz.underlying54 rfl rfl hH (seg_sub 0 rfl) (CellsAt.one rfl) ?_)
  refine s_op (o_len Tryz.underlying54 rfl ?_)
  refine s_op (o_assign (v := (.int .i64 (n : Int))) rfl ?_)
  refine s_nil ?_
  refine t_norm (hK2 _ _ ?_)
  refine wp_ret ?_
  refine c_ret1 Tryz.results120  (v := (.int .i64 (n : Int))) rfl ?_
  exact ⟨rfl, hH⟩
theorem bstrK {E w : World} {R sg : List Hp} {b : Nat} {l : List UInt8} (hH : Has E w [sg, R]) (hB : Bld b l sg) :
    Calls Tryz.prog 104 #[.pointer (some ⟨b, 0, none⟩)] w fun e w' => ∃ a p c, e = .returned (S l) ∧ Has E w' [[Hp.one b (.cells #[a, .slice p l.length c] 145 (0, 0))], R] := by
  obtain ⟨a, v, hs, rfl, _, ho, hn⟩ := hB
  by_cases hl : l = []
  · obtain rfl := hn hl
    subst hl
    exact (bsK_nil hH.open2.drop).mono fun e w' ⟨he, hH'⟩ => ⟨a, none, 0, he, hH'⟩
  · have ho2 := ho
    obtain ⟨hlc, ⟨_, h, _⟩ | ⟨g, cap, cur, rfl, rfl, hnc, _⟩⟩ := ho
    · exact absurd (List.eq_nil_of_length_eq_zero h) hl
    · exact (bsK_row hH.open2 ho2 hl (fun e => hl (List.eq_nil_of_length_eq_zero (by omega)))).mono fun e w' ⟨he, hH'⟩ => ⟨a, _, cap, he, hH'⟩
end Go.Q
namespace Go.Q
open Go.Proofs
set_option linter.unusedVariables false
set_option maxRecDepth 100000
attribute [local irreducible] wpList OK Code.wp
end Go.Q
namespace Go.Q
open Go.Proofs
set_option linter.unusedVariables false
set_option maxRecDepth 100000
attribute [local irreducible] wpList OK Code.wp
set_option maxHeartbeats 4000000 in
theorem of2_c {E w : World} {R : List Hp} (hH : Has E w [R]) (hg : CellsAt R 1 0 nibV) {v : Value} {l : List (List UInt8)} (hv : Sl R 1 v l.length (l.map sV)) (hlb : ∀ x ∈ l, x.length ≤ 9223372036854775807) :
    Calls Tryz.prog 165 #[v] w fun e w' => e = .returned (.int .u32 ((crcS l.flatten).toNat : Int)) ∧ Has E w' [R] := by
  have hn := hv.le
  refine c_enter (args := [v]) Tryz.func165 rfl Tryz.ntmps165 (by simp) ?_
  refine wp_seq_k fun K1 hK1 => ?_
  refine c_region ?_
  refine s_op (o_assign (v := (.int .u32 0)) rfl ?_)
  refine s_nil ?_
  refine t_norm (hK1 _ _ ?_)
  refine wp_seq_k fun K2 hK2 => ?_
  refine c_region ?_
  refine s_op (o_assign (v := (.int .u32 4294967295)) rfl ?_)
  refine s_nil ?_
  refine t_norm (hK2 _ _ ?_)
  refine wp_seq_k fun K3 hK3 => ?_
  refine wp_seq_k fun K4 hK4 => ?_
  refine c_region ?_
  refine s_op (o_move (v := v) rfl ?_)
  refine s_op (o_lenS Tryz.underlying102 rfl hv ?_)
  refine s_op (o_move (v := (.int .i64 0)) rfl ?_)
  refine s_nil ?_
  refine t_norm (hK4 _ _ ?_)
  refine wp_block ?_
  let I6 : Nat → (Nat → Value) → World → Prop := fun n__ r__ w__ => ∃ (k : Nat) (r : BitVec 32), n__ = l.length - k ∧ Has E w__ [R] ∧ (k ≤ l.length) ∧ (r = crcF (4294967295#32) (l.take k).flatten) ∧ r__ 0 = v ∧ r__ 2 = (.int .u32 0) ∧ r__ 3 = (.int .u32 (r.toNat : Int)) ∧ r__ 7 = v ∧ r__ 8 = (.int .i64 ((l.length : Nat) : Int)) ∧ r__ 9 = (.int .i64 (k : Int))
  refine c_loop I6 _ ⟨0, (4294967295#32), rfl, hH, Nat.zero_le _, rfl, rfl, rfl, rfl, rfl, rfl, rfl⟩ ?_
  rintro n_ r9 w7 ⟨k, r, rfl, hH8, hk, hr, e5_0, e5_2, e5_3, e5_7, e5_8, e5_9⟩
  refine wp_seq_k fun K10 hK10 => ?_
  refine c_region ?_
  refine s_op (o_lss (a := (k : Int)) (b := ((l.length : Nat) : Int)) e5_9 e5_8 ?_)
  refine s_nil ?_
  refine t_norm (hK10 _ _ ?_)
  refine wp_seq_k fun K11 hK11 => ?_
  refine c_cond rfl (fun h12 => ?_) (fun h12 => ?_)
  · -- (k : Int) < ((l.length : Nat) : Int)
    refine wp_skip ?_
    refine t_norm (hK11 _ _ ?_)
    refine wp_seq_k fun K13 hK13 => ?_
    refine wp_block ?_
    refine wp_seq_k fun K14 hK14 => ?_
    refine c_region ?_
    obtain ⟨x18, hx19⟩ : ∃ x_, l[((k : Int)).toNat]? = some x_ := get_some (by omega)
    refine s_op (o_index1 Tryz.underlying102 ti9 e5_7 hv e5_9 (by omega) hx19 fun b15 o16 hc17 => ?_)
    refine s_op (o_load1 (v := (S x18)) Tryz.underlying9 rfl rfl hH8 (seg_sub 0 rfl) hc17 ?_)
    refine s_op (o_assign (v := (S x18)) rfl ?_)
    refine s_nil ?_
    refine t_norm (hK14 _ _ ?_)
    refine wp_seq_k fun K20 hK20 => ?_
    refine c_region ?_
    refine s_op (o_move (v := (S x18)) rfl ?_)
    refine s_op (o_slen Tryz.underlying9 rfl ?_)
    refine s_op (o_move (v := (.int .i64 0)) rfl ?_)
    refine s_nil ?_
    refine t_norm (hK20 _ _ ?_)
    refine wp_block ?_
    have hxl := hlb x18 (List.mem_of_getElem? hx19)
    let I22 : Nat → (Nat → Value) → World → Prop := fun n__ r__ w__ => ∃ (j : Nat) (r2 : BitVec 32), n__ = x18.length - j ∧ Has E w__ [R] ∧ (j ≤ x18.length) ∧ (r2 = crcF r (x18.take j)) ∧ r__ 0 = v ∧ r__ 2 = (.int .u32 0) ∧ r__ 3 = (.int .u32 (r2.toNat : Int)) ∧ r__ 5 = (S x18) ∧ r__ 7 = v ∧ r__ 8 = (.int .i64 ((l.length : Nat) : Int)) ∧ r__ 9 = (.int .i64 (k : Int)) ∧ r__ 10 = (.bool (decide ((k : Int) < ((l.length : Nat) : Int)))) ∧ r__ 14 = (.int .i64 (x18.length : Int)) ∧ r__ 15 = (.int .i64 (j : Int))
    refine c_loop I22 _ ⟨0, r, rfl, hH8, Nat.zero_le _, rfl, e5_0, e5_2, e5_3, rfl, e5_7, e5_8, e5_9, rfl, rfl, rfl⟩ ?_
    rintro n_ r25 w23 ⟨j, r2, rfl, hH24, hj, hr2, e21_0, e21_2, e21_3, e21_5, e21_7, e21_8, e21_9, e21_10, e21_14, e21_15⟩
    refine wp_seq_k fun K26 hK26 => ?_
    refine c_region ?_
    refine s_op (o_lss (a := (j : Int)) (b := (x18.length : Int)) e21_15 e21_14 ?_)
    refine s_nil ?_
    refine t_norm (hK26 _ _ ?_)
    refine wp_seq_k fun K27 hK27 => ?_
    refine c_cond rfl (fun h28 => ?_) (fun h28 => ?_)
    · -- (j : Int) < (x18.length : Int)
      refine wp_skip ?_
      refine t_norm (hK27 _ _ ?_)
      refine wp_seq_k fun K29 hK29 => ?_
      refine wp_block ?_
      refine wp_seq_k fun K30 hK30 => ?_
      refine c_region ?_
      refine s_op (o_move (v := (.int .i64 (j : Int))) e21_15 ?_)
      refine s_op (o_assign (v := (.int .i64 (j : Int))) rfl ?_)
      refine s_nil ?_
      refine t_norm (hK30 _ _ ?_)
      refine wp_seq_k fun K31 hK31 => ?_
      refine c_region ?_
      refine s_op (o_move (v := (.int .u32 (r2.toNat : Int))) e21_3 ?_)
      refine s_op (o_move (v := (S x18)) e21_5 ?_)
      refine s_op (o_move (v := (.int .i64 (j : Int))) rfl ?_)
      obtain ⟨c32, hx33⟩ : ∃ x_, x18[((j : Int)).toNat]? = some x_ := get_some (by omega)
      have c32_lt := c32.toNat_lt
      refine s_op (o_sidx Tryz.underlying9 rfl rfl (by omega) hx33 ?_)
      refine s_op (o_conv (c := ((b32 c32).toNat : Int)) Tryz.underlying5 Tryz.underlying160 rfl (conv_b32 _) ?_)
      refine s_op (o_xor (a := ((r2).toNat : Int)) (b := (((b32 c32)).toNat : Int)) (c := ((r2 ^^^ (b32 c32)).toNat : Int)) rfl rfl (xor32 r2 (b32 c32)) ?_)
      refine s_op (o_assign (v := (.int .u32 ((r2 ^^^ (b32 c32)).toNat : Int))) rfl ?_)
      refine s_nil ?_
      refine t_norm (hK31 _ _ ?_)
      refine wp_seq_k fun K34 hK34 => ?_
      refine c_region ?_
      refine s_op (o_move (v := (.int .u32 ((r2 ^^^ (b32 c32)).toNat : Int))) rfl ?_)
      refine s_op (o_shr (a := (((r2 ^^^ (b32 c32))).toNat : Int)) (b := ((4 : Nat) : Int)) (c := (((r2 ^^^ (b32 c32)) >>> 4).toNat : Int)) rfl rfl (by omega) (shr32 (r2 ^^^ (b32 c32)) 4 (by omega)) ?_)
      refine s_op (o_move (v := (.int .u32 ((r2 ^^^ (b32 c32)).toNat : Int))) rfl ?_)
      refine s_op (o_and (a := (((r2 ^^^ (b32 c32))).toNat : Int)) (b := ((15#32).toNat : Int)) (c := (((r2 ^^^ (b32 c32)) &&& 15#32).toNat : Int)) rfl rfl (and32 (r2 ^^^ (b32 c32)) (15#32)) ?_)
      refine s_op (o_idxArr (i := ((r2 ^^^ (b32 c32)) &&& 15#32).toNat) Tryz.underlying213 ti160 rfl rfl (and15_lt _) ?_)
      refine s_op (o_load1 (v := (.int .u32 ((nib ((r2 ^^^ (b32 c32)) &&& 15#32).toNat).toNat : Int))) Tryz.underlying160 rfl rfl hH24 (seg_sub 0 rfl) (nib_at hg (r2 ^^^ (b32 c32))) ?_)
      refine s_op (o_xor (a := ((((r2 ^^^ (b32 c32)) >>> 4)).toNat : Int)) (b := (((nib ((r2 ^^^ (b32 c32)) &&& 15#32).toNat)).toNat : Int)) (c := ((((r2 ^^^ (b32 c32)) >>> 4) ^^^ (nib ((r2 ^^^ (b32 c32)) &&& 15#32).toNat)).toNat : Int)) rfl rfl (xor32 ((r2 ^^^ (b32 c32)) >>> 4) (nib ((r2 ^^^ (b32 c32)) &&& 15#32).toNat)) ?_)
      refine s_op (o_assign (v := (.int .u32 ((((r2 ^^^ (b32 c32)) >>> 4) ^^^ (nib ((r2 ^^^ (b32 c32)) &&& 15#32).toNat)).toNat : Int))) rfl ?_)
      refine s_nil ?_
      refine t_norm (hK34 _ _ ?_)
      refine c_region ?_
      refine s_op (o_move (v := (.int .u32 ((((r2 ^^^ (b32 c32)) >>> 4) ^^^ (nib ((r2 ^^^ (b32 c32)) &&& 15#32).toNat)).toNat : Int))) rfl ?_)
      refine s_op (o_shr (a := (((((r2 ^^^ (b32 c32)) >>> 4) ^^^ (nib ((r2 ^^^ (b32 c32)) &&& 15#32).toNat))).toNat : Int)) (b := ((4 : Nat) : Int)) (c := (((((r2 ^^^ (b32 c32)) >>> 4) ^^^ (nib ((r2 ^^^ (b32 c32)) &&& 15#32).toNat)) >>> 4).toNat : Int)) rfl rfl (by omega) (shr32 (((r2 ^^^ (b32 c32)) >>> 4) ^^^ (nib ((r2 ^^^ (b32 c32)) &&& 15#32).toNat)) 4 (by omega)) ?_)
      refine s_op (o_move (v := (.int .u32 ((((r2 ^^^ (b32 c32)) >>> 4) ^^^ (nib ((r2 ^^^ (b32 c32)) &&& 15#32).toNat)).toNat : Int))) rfl ?_)
      refine s_op (o_and (a := (((((r2 ^^^ (b32 c32)) >>> 4) ^^^ (nib ((r2 ^^^ (b32 c32)) &&& 15#32).toNat))).toNat : Int)) (b := ((15#32).toNat : Int)) (c := (((((r2 ^^^ (b32 c32)) >>> 4) ^^^ (nib ((r2 ^^^ (b32 c32)) &&& 15#32).toNat)) &&& 15#32).toNat : Int)) rfl rfl (and32 (((r2 ^^^ (b32 c32)) >>> 4) ^^^ (nib ((r2 ^^^ (b32 c32)) &&& 15#32).toNat)) (15#32)) ?_)
      refine s_op (o_idxArr (i := ((((r2 ^^^ (b32 c32)) >>> 4) ^^^ (nib ((r2 ^^^ (b32 c32)) &&& 15#32).toNat)) &&& 15#32).toNat) Tryz.underlying213 ti160 rfl rfl (and15_lt _) ?_)
      refine s_op (o_load1 (v := (.int .u32 ((nib ((((r2 ^^^ (b32 c32)) >>> 4) ^^^ (nib ((r2 ^^^ (b32 c32)) &&& 15#32).toNat)) &&& 15#32).toNat).toNat : Int))) Tryz.underlying160 rfl rfl hH24 (seg_sub 0 rfl) (nib_at hg (((r2 ^^^ (b32 c32)) >>> 4) ^^^ (nib ((r2 ^^^ (b32 c32)) &&& 15#32).toNat))) ?_)
      refine s_op (o_xor (a := ((((((r2 ^^^ (b32 c32)) >>> 4) ^^^ (nib ((r2 ^^^ (b32 c32)) &&& 15#32).toNat)) >>> 4)).toNat : Int)) (b := (((nib ((((r2 ^^^ (b32 c32)) >>> 4) ^^^ (nib ((r2 ^^^ (b32 c32)) &&& 15#32).toNat)) &&& 15#32).toNat)).toNat : Int)) (c := ((((((r2 ^^^ (b32 c32)) >>> 4) ^^^ (nib ((r2 ^^^ (b32 c32)) &&& 15#32).toNat)) >>> 4) ^^^ (nib ((((r2 ^^^ (b32 c32)) >>> 4) ^^^ (nib ((r2 ^^^ (b32 c32)) &&& 15#32).toNat)) &&& 15#32).toNat)).toNat : Int)) rfl rfl (xor32 ((((r2 ^^^ (b32 c32)) >>> 4) ^^^ (nib ((r2 ^^^ (b32 c32)) &&& 15#32).toNat)) >>> 4) (nib ((((r2 ^^^ (b32 c32)) >>> 4) ^^^ (nib ((r2 ^^^ (b32 c32)) &&& 15#32).toNat)) &&& 15#32).toNat)) ?_)
      refine s_op (o_assign (v := (.int .u32 ((((((r2 ^^^ (b32 c32)) >>> 4) ^^^ (nib ((r2 ^^^ (b32 c32)) &&& 15#32).toNat)) >>> 4) ^^^ (nib ((((r2 ^^^ (b32 c32)) >>> 4) ^^^ (nib ((r2 ^^^ (b32 c32)) &&& 15#32).toNat)) &&& 15#32).toNat)).toNat : Int))) rfl ?_)
      refine s_nil ?_
      refine b_norm ?_
      refine t_norm (hK29 _ _ ?_)
      refine c_region ?_
      refine s_op (o_add (a := (j : Int)) (b := 1) e21_15 rfl (w64 (by omega) (by omega)) ?_)
      refine s_op (o_move (v := (.int .i64 ((j : Int) + 1))) rfl ?_)
      refine s_nil ?_
      refine t_norm ⟨x18.length - (j + 1), _, rfl, ?_, ?_⟩
      · omega
      · exact ⟨(j + 1), (((((r2 ^^^ (b32 c32)) >>> 4) ^^^ (nib ((r2 ^^^ (b32 c32)) &&& 15#32).toNat)) >>> 4) ^^^ (nib ((((r2 ^^^ (b32 c32)) >>> 4) ^^^ (nib ((r2 ^^^ (b32 c32)) &&& 15#32).toNat)) &&& 15#32).toNat)), rfl, hH24, (by omega), (by rw [take_succ_of (show x18[j]? = some _ from hx33), crcF_snoc, ← hr2, cby_nib]), e21_0, e21_2, rfl, e21_5, e21_7, e21_8, e21_9, e21_10, e21_14, rfl⟩
    · -- not: (j : Int) < (x18.length : Int)
      refine wp_exit ?_
      refine t_exit (t_exit (x_in (?_)))
      refine b_norm ?_
      refine t_norm (hK13 _ _ ?_)
      refine c_region ?_
      refine s_op (o_add (a := (k : Int)) (b := 1) e21_9 rfl (w64 (by omega) (by omega)) ?_)
      refine s_op (o_move (v := (.int .i64 ((k : Int) + 1))) rfl ?_)
      refine s_nil ?_
      refine t_norm ⟨l.length - (k + 1), _, rfl, ?_, ?_⟩
      · omega
      · exact ⟨(k + 1), r2, rfl, hH24, (by omega), (by rw [take_succ_of (show l[k]? = some _ from hx19), List.flatten_append, crcF_append, ← hr, hr2, show j = x18.length from by omega, List.take_length]; simp), e21_0, e21_2, e21_3, e21_7, e21_8, rfl⟩
  · -- not: (k : Int) < ((l.length : Nat) : Int)
    refine wp_exit ?_
    refine t_exit (t_exit (x_in (?_)))
    refine t_norm (hK3 _ _ ?_)
    refine wp_seq_k fun K35 hK35 => ?_
    refine c_region ?_
    refine s_op (o_move (v := (.int .u32 (r.toNat : Int))) e5_3 ?_)
    refine s_op (o_compl (a := r) Tryz.underlying160 rfl ?_)
    refine s_op (o_assign (v := (.int .u32 ((~~~ r).toNat : Int))) rfl ?_)
    refine s_nil ?_
    refine t_norm (hK35 _ _ ?_)
    refine wp_ret ?_
    refine c_ret1 Tryz.results165  (v := (.int .u32 ((~~~ r).toNat : Int))) rfl ?_
    have e : k = l.length := by omega
    rw [e, List.take_length] at hr
    subst hr
    exact ⟨rfl, hH8⟩
end Go.Q
namespace Go.Q
open Go.Proofs
set_option linter.unusedVariables false
set_option maxRecDepth 100000
attribute [local irreducible] wpList OK Code.wp
set_option maxHeartbeats 4000000 in
theorem laid_c {E w : World} {R : List Hp} (hH : Has E w [R]) (hg : CellsAt R 1 0 nibV) {v : Value} {l : List (List UInt8)} (hv : Sl R 1 v l.length (l.map sV)) (hlb : ∀ x ∈ l, x.length ≤ 9223372036854775807) :
    Calls Tryz.prog 143 #[v] w fun e w' => e = .returned (S (laidS (crcS l.flatten))) ∧ Has E w' [R] := by
  refine c_enter (args := [v]) Tryz.func143 rfl Tryz.ntmps143 (by simp) ?_
  refine wp_seq_k fun K1 hK1 => ?_
  refine c_region ?_
  refine s_op (o_assign (v := (S ([] : List UInt8))) rfl ?_)
  refine s_nil ?_
  refine t_norm (hK1 _ _ ?_)
  refine wp_seq_k fun K2 hK2 => ?_
  refine c_region ?_
  refine s_op (o_move (v := v) rfl ?_)
  refine s_op (o_callf (vs := #[v]) ca165 rfl (args1 rfl) (of2_c hH.all (hg.mono (seg_sub 0 rfl)) (hv.mono (seg_sub 0 rfl)) hlb) ?_)
  rintro _ w5 ⟨rfl, hX3⟩
  refine ⟨_, rfl, ?_⟩
  have hH4 := hX3.of_all
  refine s_op (o_assign (v := (.int .u32 ((crcS l.flatten).toNat : Int))) rfl ?_)
  refine s_nil ?_
  refine t_norm (hK2 _ _ ?_)
  refine wp_seq_k fun K6 hK6 => ?_
  refine c_region ?_
  refine s_op (o_move (v := (.int .u32 ((crcS l.flatten).toNat : Int))) rfl ?_)
  refine s_op (o_conv (c := ((lo8 (crcS l.flatten)).toNat : Int)) Tryz.underlying160 Tryz.underlying5 rfl (conv_lo8 _) ?_)
  refine s_op (o_move (v := (.int .u32 ((crcS l.flatten).toNat : Int))) rfl ?_)
  refine s_op (o_shr (a := (((crcS l.flatten)).toNat : Int)) (b := ((8 : Nat) : Int)) (c := (((crcS l.flatten) >>> 8).toNat : Int)) rfl rfl (by omega) (shr32 (crcS l.flatten) 8 (by omega)) ?_)
  refine s_op (o_conv (c := ((lo8 ((crcS l.flatten) >>> 8)).toNat : Int)) Tryz.underlying160 Tryz.underlying5 rfl (conv_lo8 _) ?_)
  refine s_op (o_move (v := (.int .u32 ((crcS l.flatten).toNat : Int))) rfl ?_)
  refine s_op (o_shr (a := (((crcS l.flatten)).toNat : Int)) (b := ((16 : Nat) : Int)) (c := (((crcS l.flatten) >>> 16).toNat : Int)) rfl rfl (by omega) (shr32 (crcS l.flatten) 16 (by omega)) ?_)
  refine s_op (o_conv (c := ((lo8 ((crcS l.flatten) >>> 16)).toNat : Int)) Tryz.underlying160 Tryz.underlying5 rfl (conv_lo8 _) ?_)
  refine s_op (o_move (v := (.int .u32 ((crcS l.flatten).toNat : Int))) rfl ?_)
  refine s_op (o_shr (a := (((crcS l.flatten)).toNat : Int)) (b := ((24 : Nat) : Int)) (c := (((crcS l.flatten) >>> 24).toNat : Int)) rfl rfl (by omega) (shr32 (crcS l.flatten) 24 (by omega)) ?_)
  refine s_op (o_conv (c := ((lo8 ((crcS l.flatten) >>> 24)).toNat : Int)) Tryz.underlying160 Tryz.underlying5 rfl (conv_lo8 _) ?_)
  refine s_op (o_buildSlice (ps := #[(0, (bV (lo8 (crcS l.flatten)))), (1, (bV (lo8 ((crcS l.flatten) >>> 8)))), (2, (bV (lo8 ((crcS l.flatten) >>> 16)))), (3, (bV (lo8 ((crcS l.flatten) >>> 24))))]) (cells := #[(bV (lo8 (crcS l.flatten))), (bV (lo8 ((crcS l.flatten) >>> 8))), (bV (lo8 ((crcS l.flatten) >>> 16))), (bV (lo8 ((crcS l.flatten) >>> 24)))]) Tryz.underlying54 ti5 (by decide) (parts4 rfl rfl rfl rfl) (by kernel_rfl) hH4 fun b7 w8 hH9 => ?_)
  refine s_op (o_bstr Tryz.underlying54 Tryz.underlying5 Tryz.underlying9 rfl (sl_lit (f := bV) (l := [(lo8 (crcS l.flatten)), (lo8 ((crcS l.flatten) >>> 8)), (lo8 ((crcS l.flatten) >>> 16)), (lo8 ((crcS l.flatten) >>> 24))]) rfl rfl (by simp)) hH9 (seg_sub 0 rfl) ?_)
  refine s_op (o_assign (v := (S [(lo8 (crcS l.flatten)), (lo8 ((crcS l.flatten) >>> 8)), (lo8 ((crcS l.flatten) >>> 16)), (lo8 ((crcS l.flatten) >>> 24))])) rfl ?_)
  refine s_nil ?_
  refine t_norm (hK6 _ _ ?_)
  refine wp_ret ?_
  refine c_ret1 Tryz.results143  (v := (S [(lo8 (crcS l.flatten)), (lo8 ((crcS l.flatten) >>> 8)), (lo8 ((crcS l.flatten) >>> 16)), (lo8 ((crcS l.flatten) >>> 24))])) rfl ?_
  have hH10 : Has E w8 [R] := (hH9.front 1 rfl).first 1 rfl
  exact ⟨rfl, hH10⟩
set_option maxHeartbeats 4000000 in
theorem seal_c {E w : World} {R : List Hp} (hH : Has E w [R]) (hg : CellsAt R 1 0 nibV) {v : Value} {l : List (List UInt8)} (hv : Sl R 1 v l.length (l.map sV)) (hn : l.length ≤ 1000000) (hl : l.flatten.length ≤ 1000000000) :
    Calls Tryz.prog 123 #[v] w fun e w' => e = .returned (S (sealS l.flatten)) ∧ Has E w' [R] := by
  refine c_enter (args := [v]) Tryz.func123 rfl Tryz.ntmps123 (by simp) ?_
  refine wp_seq_k fun K1 hK1 => ?_
  refine c_region ?_
  refine s_op (o_assign (v := (S ([] : List UInt8))) rfl ?_)
  refine s_nil ?_
  refine t_norm (hK1 _ _ ?_)
  refine wp_seq_k fun K2 hK2 => ?_
  refine c_region ?_
  refine s_op (o_move (v := v) rfl ?_)
  refine s_op (o_callf (vs := #[v, (S ([] : List UInt8))]) ca108 rfl (args2 rfl rfl) (join_c hH.all (hv.mono (seg_sub 0 rfl)) hn hl) ?_)
  rintro _ w5 ⟨rfl, hX3⟩
  refine ⟨_, rfl, ?_⟩
  have hH4 := hX3.of_all
  refine s_op (o_move (v := v) rfl ?_)
  refine s_op (o_callf (vs := #[v]) ca143 rfl (args1 rfl) (laid_c hH4.all (hg.mono (seg_sub 0 rfl)) (hv.mono (seg_sub 0 rfl)) (fun x hx => by have := flat_le hx; omega)) ?_)
  rintro _ w8 ⟨rfl, hX6⟩
  refine ⟨_, rfl, ?_⟩
  have hH7 := hX6.of_all
  refine s_op (o_sadd rfl rfl (by rw [laidS_len]; omega) ?_)
  refine s_op (o_assign (v := (S (l.flatten ++ (laidS (crcS l.flatten))))) rfl ?_)
  refine s_nil ?_
  refine t_norm (hK2 _ _ ?_)
  refine wp_ret ?_
  refine c_ret1 Tryz.results123  (v := (S (l.flatten ++ (laidS (crcS l.flatten))))) rfl ?_
  exact ⟨rfl, hH7⟩
end Go.Q
