/-
  Parts of a walk: what functions of the program compute, each told by a theorem (Qvt10, QFun, Qvk1, Qvp1, QBld, QvSB, QvSB2, Qvn2, Qvs1, Qvs2, Qvp9, Qvp10, Qvt2, Qvt3, QTw4, QTw5, Qvt13, Qvt4, QY, QYS, QDevA, QAreaA, QvSh4, Qvt5).
-/
import Derived.Test.YtcjjknilhceeeaaGreatDoorB2
import Derived.Lib.AppendStr
import Derived.Lib.UnsafeStr
import Derived.Lib.Builder
import Derived.ChangeArms
import Derived.WideShapes
import Derived.DataElems
import Derived.SizedLaws
import Derived.Shelf.Strings.Trim
set_option linter.unusedVariables false
set_option linter.unusedSimpArgs false
set_option linter.unnecessarySimpa false
namespace Go.Q
open Go.Proofs
set_option linter.unusedVariables false
set_option maxRecDepth 100000
attribute [local irreducible] wpList OK Code.wp
set_option maxHeartbeats 4000000 in
theorem tfmt_ok {E w : World} {R sg : List Hp} {pb db : Nat} {p : Pw} {m : Nat} (hH : Has E w [sg, [Hp.one pb (.cells #[(.bool p.off), (.bool p.armed), (.int .i64 p.left), (.int .i64 p.uses)] 101 (0, 0))], R]) (hd : DevAt pb sg db (List.replicate m blankS) []) {n : Int} (hcal : p.off = false ∧ p.armed = false) {k : Nat} (hf : Few p k) (hk : k ≤ 800000) (hm : m ≤ 4096) (hn : 1 ≤ n ∧ n ≤ 64) (hln : 5 + n * 4 ≤ m) :
    Calls Tryz.prog 13 #[(.pointer (some ⟨db, 0, none⟩)), (.int .i64 n)] w fun e w' => ∃ tb sg', e = .returned (.tuple #[.pointer (some ⟨tb, 0, none⟩), .int .i64 0]) ∧ DevAt pb sg' db (List.replicate m blankS) [] ∧ Has E w' [[Hp.one tb (.cells #[(.pointer (some ⟨db, 0, none⟩)), (.int .i64 n)] 98 (0, 0))], sg', [Hp.one pb (.cells #[(.bool (Pw.mk false false (p.left - (m + 1)) (p.uses + (m + 1))).off), (.bool (Pw.mk false false (p.left - (m + 1)) (p.uses + (m + 1))).armed), (.int .i64 (Pw.mk false false (p.left - (m + 1)) (p.uses + (m + 1))).left), (.int .i64 (Pw.mk false false (p.left - (m + 1)) (p.uses + (m + 1))).uses)] 101 (0, 0))], R] := by
  have hml_ : (List.replicate m blankS).length = m := List.length_replicate
  refine c_enter (args := [(.pointer (some ⟨db, 0, none⟩)), (.int .i64 n)]) Tryz.func13 rfl Tryz.ntmps13 (by simp) ?_
  refine wp_seq_k fun K1 hK1 => ?_
  refine c_region ?_
  refine s_op (o_assign (v := (.pointer none)) rfl ?_)
  refine s_op (o_assign (v := (.int .i64 0)) rfl ?_)
  refine s_nil ?_
  refine t_norm (hK1 _ _ ?_)
  refine wp_seq_k fun K2 hK2 => ?_
  refine wp_seq_k fun K3 hK3 => ?_
  refine c_region ?_
  refine s_op (o_move (v := (.pointer (some ⟨db, 0, none⟩))) rfl ?_)
  refine s_op (o_move (v := (.int .i64 n)) rfl ?_)
  refine s_op (o_callf (vs := #[(.pointer (some ⟨db, 0, none⟩)), (.int .i64 n)]) ca50 rfl (args2 rfl rfl) (begin_ok (d := (Dv.mk p (List.replicate m blankS) [])) ((hH.front 1 rfl).front 1 rfl).all2 hd (n := n) (by rw [List.length_replicate]; exact hm) hn (by rw [List.length_replicate]; omega) hcal.1) ?_)
  rintro _ w6 ⟨rfl, hX4⟩
  refine ⟨_, rfl, ?_⟩
  have hH5 : Has E w6 [sg, [Hp.one pb (.cells #[(.bool p.off), (.bool p.armed), (.int .i64 p.left), (.int .i64 p.uses)] 101 (0, 0))], R] := hX4.of_all2
  refine s_op (o_assign (v := (.int .i64 (0 : Int))) rfl ?_)
  refine s_nil ?_
  refine t_norm (hK3 _ _ ?_)
  refine wp_seq_k fun K7 hK7 => ?_
  refine c_region ?_
  refine s_op (o_move (v := (.int .i64 (0 : Int))) rfl ?_)
  refine s_op (o_neq (a := (0 : Int)) (b := 0) rfl rfl ?_)
  refine s_nil ?_
  refine t_norm (hK7 _ _ ?_)
  refine c_cond rfl (fun h8 => ?_) (fun h8 => ?_)
  · -- (0 : Int) ≠ 0
    exact absurd rfl h8
  · -- not: (0 : Int) ≠ 0
    refine wp_skip ?_
    refine t_norm (hK2 _ _ ?_)
    refine wp_seq_k fun K9 hK9 => ?_
    refine wp_seq_k fun K10 hK10 => ?_
    refine c_region ?_
    refine s_op (o_move (v := (.pointer (some ⟨db, 0, none⟩))) rfl ?_)
    refine s_op (o_callf (vs := #[(.pointer (some ⟨db, 0, none⟩))]) ca51 rfl (args1 rfl) (sectors_d (p := p) (la := (List.replicate m blankS)) (lo := []) ((hH5.front 1 rfl).front 1 rfl).all2 hd ) ?_)
    rintro _ w13 ⟨rfl, hX11⟩
    refine ⟨_, rfl, ?_⟩
    have hH12 : Has E w13 [sg, [Hp.one pb (.cells #[(.bool p.off), (.bool p.armed), (.int .i64 p.left), (.int .i64 p.uses)] 101 (0, 0))], R] := hX11.of_all2
    refine s_op (o_move (v := (.int .i64 0)) rfl ?_)
    refine s_nil ?_
    refine t_norm (hK10 _ _ ?_)
    refine wp_block ?_
    have hH14 : Has E w13 [sg, [Hp.one pb (.cells #[(.bool (Dv.mk p (List.replicate m blankS) []).p.off), (.bool (Dv.mk p (List.replicate m blankS) []).p.armed), (.int .i64 (Dv.mk p (List.replicate m blankS) []).p.left), (.int .i64 (Dv.mk p (List.replicate m blankS) []).p.uses)] 101 (0, 0))], R] := hH12
    let I16 : Nat → (Nat → Value) → World → Prop := fun n__ r__ w__ => ∃ (i : Nat) (dc : Dv) (sgc : List Hp), n__ = m - i ∧ Has E w__ [sgc, [Hp.one pb (.cells #[(.bool dc.p.off), (.bool dc.p.armed), (.int .i64 dc.p.left), (.int .i64 dc.p.uses)] 101 (0, 0))], R] ∧ (i ≤ m) ∧ (DevAt pb sgc db dc.la dc.lo) ∧ (dc.p = ⟨false, false, p.left - i, p.uses + i⟩) ∧ (Few dc.p (k + i)) ∧ (dc.la = (List.replicate m blankS)) ∧ (LoOk dc.lo dc.la.length) ∧ (nowS dc.la dc.lo = (List.replicate m blankS)) ∧ r__ 0 = (.pointer (some ⟨db, 0, none⟩)) ∧ r__ 1 = (.int .i64 n) ∧ r__ 6 = (.int .i64 (0 : Int)) ∧ r__ 14 = (.bool (decide ((0 : Int) ≠ 0))) ∧ r__ 17 = (.int .i64 (((List.replicate m blankS).length : Nat) : Int)) ∧ r__ 18 = (.int .i64 (i : Int))
    refine c_loop I16 _ ⟨0, (Dv.mk p (List.replicate m blankS) []), sg, rfl, hH14, Nat.zero_le _, hd, (by obtain ⟨a_, b_, c_, d_⟩ := p; obtain ⟨h1_, h2_⟩ := hcal; cases h1_; cases h2_; simp), hf, rfl, LoOk.nil _, now_nil _, rfl, rfl, rfl, rfl, rfl, rfl⟩ ?_
    rintro n_ r19 w17 ⟨i, dc, sgc, rfl, hH18, hi, hdc, hpc, hcc, hac, hlc, hwc, e15_0, e15_1, e15_6, e15_14, e15_17, e15_18⟩
    refine wp_seq_k fun K20 hK20 => ?_
    refine c_region ?_
    refine s_op (o_lss (a := (i : Int)) (b := (((List.replicate m blankS).length : Nat) : Int)) e15_18 e15_17 ?_)
    refine s_nil ?_
    refine t_norm (hK20 _ _ ?_)
    refine wp_seq_k fun K21 hK21 => ?_
    refine c_cond rfl (fun h22 => ?_) (fun h22 => ?_)
    · -- (i : Int) < (((List.replicate m blankS).length : Nat) : Int)
      refine wp_skip ?_
      refine t_norm (hK21 _ _ ?_)
      refine wp_seq_k fun K23 hK23 => ?_
      refine wp_block ?_
      refine wp_seq_k fun K24 hK24 => ?_
      refine c_region ?_
      refine s_op (o_move (v := (.int .i64 (i : Int))) e15_18 ?_)
      refine s_op (o_assign (v := (.int .i64 (i : Int))) rfl ?_)
      refine s_nil ?_
      refine t_norm (hK24 _ _ ?_)
      refine wp_seq_k fun K25 hK25 => ?_
      refine c_region ?_
      refine s_op (o_move (v := (.pointer (some ⟨db, 0, none⟩))) e15_0 ?_)
      refine s_op (o_move (v := (.int .i64 (i : Int))) rfl ?_)
      refine s_op (o_callf (vs := #[(.pointer (some ⟨db, 0, none⟩)), (.int .i64 (i : Int)), (.slice none 0 0)]) ca52 rfl (args3 rfl rfl rfl) (dv_wr (d := dc) ((hH18.front 1 rfl).front 1 rfl).all2 hdc (hcc.ok (by omega)) (by rw [hac, List.length_replicate]; exact hm) (i : Int) (l := ([] : List Bs)) (sl_nil 1) (s := ([] : Bs)) rfl (by simp) (by simp)) ?_)
      rintro _ w30 ⟨sg26, rfl, hd27, hX28⟩
      refine ⟨_, rfl, ?_⟩
      have hH29 : Has E w30 [sg26, [Hp.one pb (.cells #[(.bool (dc.wr (i : Int) ([] : Bs)).p.off), (.bool (dc.wr (i : Int) ([] : Bs)).p.armed), (.int .i64 (dc.wr (i : Int) ([] : Bs)).p.left), (.int .i64 (dc.wr (i : Int) ([] : Bs)).p.uses)] 101 (0, 0))], R] := hX28.of_all2
      refine s_op (o_assign (v := (.int .i64 (dc.wrE (i : Int) ([] : Bs)))) rfl ?_)
      refine s_nil ?_
      refine t_norm (hK25 _ _ ?_)
      refine wp_seq_k fun K31 hK31 => ?_
      refine c_region ?_
      refine s_op (o_move (v := (.int .i64 (dc.wrE (i : Int) ([] : Bs)))) rfl ?_)
      refine s_op (o_neq (a := dc.wrE (i : Int) ([] : Bs)) (b := 0) rfl rfl ?_)
      refine s_nil ?_
      refine t_norm (hK31 _ _ ?_)
      refine c_cond rfl (fun h32 => ?_) (fun h32 => ?_)
      · -- dc.wrE (i : Int) ([] : Bs) ≠ 0
        exact absurd (fm_e hpc hac (by omega)) h32
      · -- not: dc.wrE (i : Int) ([] : Bs) ≠ 0
        refine wp_skip ?_
        refine b_norm ?_
        refine t_norm (hK23 _ _ ?_)
        refine c_region ?_
        refine s_op (o_add (a := (i : Int)) (b := 1) e15_18 rfl (w64 (by omega) (by omega)) ?_)
        refine s_op (o_move (v := (.int .i64 ((i : Int) + 1))) rfl ?_)
        refine s_nil ?_
        refine t_norm ⟨m - (i + 1), _, rfl, ?_, ?_⟩
        · omega
        · exact ⟨(i + 1), (dc.wr (i : Int) ([] : Bs)), sg26, rfl, hH29, (by omega), (hd27), (fm_p hpc), (hcc.use), (hac), (hlc.write _ _ _), (fm_now hpc hac hwc (by omega)), e15_0, e15_1, e15_6, e15_14, e15_17, rfl⟩
    · -- not: (i : Int) < (((List.replicate m blankS).length : Nat) : Int)
      refine wp_exit ?_
      refine t_exit (t_exit (x_in (?_)))
      refine t_norm (hK9 _ _ ?_)
      refine wp_seq_k fun K33 hK33 => ?_
      refine wp_seq_k fun K34 hK34 => ?_
      refine c_region ?_
      refine s_op (o_move (v := (.pointer (some ⟨db, 0, none⟩))) e15_0 ?_)
      refine s_op (o_callf (vs := #[(.pointer (some ⟨db, 0, none⟩))]) ca27 rfl (args1 rfl) (dv_sy (d := dc) ((hH18.front 1 rfl).front 1 rfl).all2 hdc (hcc.ok (by omega)) (by rw [hac, List.length_replicate]; exact hm) hlc) ?_)
      rintro _ w39 ⟨sg35, rfl, hd36, hX37⟩
      refine ⟨_, rfl, ?_⟩
      have hH38 : Has E w39 [sg35, [Hp.one pb (.cells #[(.bool dc.sy.p.off), (.bool dc.sy.p.armed), (.int .i64 dc.sy.p.left), (.int .i64 dc.sy.p.uses)] 101 (0, 0))], R] := hX37.of_all2
      refine s_op (o_assign (v := (.int .i64 dc.syE)) rfl ?_)
      refine s_nil ?_
      refine t_norm (hK34 _ _ ?_)
      refine wp_seq_k fun K40 hK40 => ?_
      refine c_region ?_
      refine s_op (o_move (v := (.int .i64 dc.syE)) rfl ?_)
      refine s_op (o_neq (a := dc.syE) (b := 0) rfl rfl ?_)
      refine s_nil ?_
      refine t_norm (hK40 _ _ ?_)
      refine c_cond rfl (fun h41 => ?_) (fun h41 => ?_)
      · -- dc.syE ≠ 0
        exact absurd (fm_sy hpc) h41
      · -- not: dc.syE ≠ 0
        refine wp_skip ?_
        refine t_norm (hK33 _ _ ?_)
        refine wp_seq_k fun K42 hK42 => ?_
        refine c_region ?_
        refine s_op (o_move (v := (.pointer (some ⟨db, 0, none⟩))) e15_0 ?_)
        refine s_op (o_move (v := (.int .i64 n)) e15_1 ?_)
        refine s_op (o_sight (v := (.agg #[(.pointer (some ⟨db, 0, none⟩)), (.int .i64 n)])) (fun _ => by kernel_rfl) ?_)
        refine s_op (o_box (cs := #[(.pointer (some ⟨db, 0, none⟩)), (.int .i64 n)]) rfl rfl hH38 fun b43 w44 hH45 => ?_)
        refine s_op (o_assign (v := (.pointer (some ⟨b43, 0, none⟩))) rfl ?_)
        refine s_op (o_assign (v := (.int .i64 0)) rfl ?_)
        refine s_nil ?_
        refine t_norm (hK42 _ _ ?_)
        refine wp_ret ?_
        refine c_ret2 Tryz.results13  (v := (.pointer (some ⟨b43, 0, none⟩))) rfl (x := (.int .i64 0)) rfl ?_
        have ei_ : i = m := by omega
        obtain ⟨q1_, q2_, q3_⟩ := fm_end hpc hac hlc hwc
        have hd_ := hd36
        rw [q2_, q3_] at hd_
        have hH_ := hH45
        rw [q1_, ei_] at hH_
        exact ⟨_, _, rfl, hd_, hH_⟩
end Go.Q
namespace Go.Q
section ops
variable {P : Program} {ρ : Operand → Value} {E w : World} {ss : List (List Hp)} {K : Value → World → Prop} {dst : Option Tmp} {T : TypeId} {pos : String} {after : Array Edge} {g : Option (Nat × Bool)}
theorem o_makeFunc {f : FuncId} {cs : Array Operand} {vs : Array Value} (hv : cs.map ρ = vs) (hK : K (.func (.func f) #[] vs) w) : OK P ⟨dst, .makeFunc (.func f) #[] cs, T, pos, after, g⟩ ρ w K := by
  refine OK.val (w' := w) ?_ hK
  subst hv; simp [execOp, Instr.makeFunc]
variable {a b c : Operand} {u v x y : Value}
theorem cap1 (h1 : ρ a = u) : #[a].map ρ = #[u] := by simp [*]
theorem cap3 (h1 : ρ a = u) (h2 : ρ b = v) (h3 : ρ c = x) : #[a, b, c].map ρ = #[u, v, x] := by simp [*]
end ops
end Go.Q
namespace Go.Q
open Go.Proofs
set_option linter.unusedVariables false
set_option maxRecDepth 100000
attribute [local irreducible] wpList OK Code.wp
set_option maxHeartbeats 4000000 in
theorem keyf_c {E w : World} {R : List Hp} {k : Bs}  (hH : Has E w [R]) :
    Calls Tryz.prog 160 #[(S k)] w fun e w' => e = .returned (.bool (keyR k)) ∧ Has E w' [R] := by
  refine c_enter (args := [(S k)]) Tryz.func160 rfl Tryz.ntmps160 (by simp) ?_
  refine wp_seq_k fun K1 hK1 => ?_
  refine c_region ?_
  refine s_op (o_assign (v := (.bool false)) rfl ?_)
  refine s_nil ?_
  refine t_norm (hK1 _ _ ?_)
  refine wp_seq_k fun K2 hK2 => ?_
  refine c_region ?_
  refine s_op (o_move (v := (S k)) rfl ?_)
  refine s_op (o_sneq (a := k) (b := ([] : List UInt8)) rfl rfl ?_)
  refine s_op (o_move (v := (.bool (decide (k ≠ ([] : List UInt8))))) rfl ?_)
  by_cases h3 : k ≠ ([] : List UInt8)
  · -- k ≠ ([] : List UInt8)
    refine s_on 5 rfl (congrArg Value.bool (decide_eq_true h3)) (o_move (v := (S k)) rfl ?_)
    refine s_on 5 rfl (congrArg Value.bool (decide_eq_true h3)) (o_slen Tryz.underlying9 rfl ?_)
    refine s_on 5 rfl (congrArg Value.bool (decide_eq_true h3)) (o_leq (a := (k.length : Int)) (b := 8) rfl rfl ?_)
    refine s_op (o_pick_t (u := (.bool (decide ((k.length : Int) ≤ 8)))) ((rfl : _ = _).trans (congrArg Value.bool (decide_eq_true h3))) rfl ?_)
    refine s_op (o_assign (v := (.bool (decide ((k.length : Int) ≤ 8)))) rfl ?_)
    refine s_nil ?_
    refine t_norm (hK2 _ _ ?_)
    refine wp_ret ?_
    refine c_ret1 Tryz.results160  (v := (.bool (decide ((k.length : Int) ≤ 8)))) rfl ?_
    have q4 : (keyR k) = decide ((k.length : Int) ≤ 8) := by rw [Bool.eq_iff_iff]; first | (simp [keyR, h3]; done) | (simp_all [keyR]; done)
    exact ⟨by rw [q4], hH⟩
  · -- not: k ≠ ([] : List UInt8)
    refine s_off (b' := false) 5 rfl (congrArg Value.bool (decide_eq_false h3)) rfl ?_
    refine s_off (b' := false) 5 rfl (congrArg Value.bool (decide_eq_false h3)) rfl ?_
    refine s_off (b' := false) 5 rfl (congrArg Value.bool (decide_eq_false h3)) rfl ?_
    refine s_op (o_pick_f (u := (.bool false)) ((rfl : _ = _).trans (congrArg Value.bool (decide_eq_false h3))) rfl ?_)
    refine s_op (o_assign (v := (.bool false)) rfl ?_)
    refine s_nil ?_
    refine t_norm (hK2 _ _ ?_)
    refine wp_ret ?_
    refine c_ret1 Tryz.results160  (v := (.bool false)) rfl ?_
    have q5 : (keyR k) = false := by rw [Bool.eq_iff_iff]; first | (simp [keyR, h3]; done) | (simp_all [keyR]; done)
    exact ⟨by rw [q5], hH⟩
set_option maxHeartbeats 4000000 in
theorem valf_c {E w : World} {R : List Hp} {v : Bool × Bs}  (hH : Has E w [R]) :
    Calls Tryz.prog 162 #[(.agg #[(.bool v.1), (S v.2)])] w fun e w' => e = .returned (.bool (valR v)) ∧ Has E w' [R] := by
  refine c_enter (args := [(.agg #[(.bool v.1), (S v.2)])]) Tryz.func162 rfl Tryz.ntmps162 (by simp) ?_
  refine wp_seq_k fun K1 hK1 => ?_
  refine c_region ?_
  refine s_op (o_box (cs := #[(.bool v.1), (S v.2)]) rfl rfl hH fun b2 w3 hH4 => ?_)
  refine s_op (o_assign (v := (.bool false)) rfl ?_)
  refine s_nil ?_
  refine t_norm (hK1 _ _ ?_)
  refine wp_seq_k fun K5 hK5 => ?_
  refine c_region ?_
  refine s_op (o_fieldAddr (k := 1) (fun _ => by kernel_rfl) rfl ?_)
  refine s_op (o_load1 (v := (S v.2)) Tryz.underlying9 rfl rfl hH4 (seg_sub 0 rfl) (CellsAt.one rfl) ?_)
  refine s_op (o_slen Tryz.underlying9 rfl ?_)
  refine s_op (o_leq (a := (v.2.length : Int)) (b := 16) rfl rfl ?_)
  refine s_op (o_move (v := (.bool (decide ((v.2.length : Int) ≤ 16)))) rfl ?_)
  by_cases h6 : (v.2.length : Int) ≤ 16
  · -- (v.2.length : Int) ≤ 16
    refine s_on 7 rfl (congrArg Value.bool (decide_eq_true h6)) (o_fieldAddr (k := 0) (fun _ => by kernel_rfl) rfl ?_)
    refine s_on 7 rfl (congrArg Value.bool (decide_eq_true h6)) (o_load1 (v := (.bool v.1)) Tryz.underlying4 rfl rfl hH4 (seg_sub 0 rfl) (CellsAt.one rfl) ?_)
    refine s_on 7 rfl (congrArg Value.bool (decide_eq_true h6)) (o_move (v := (.bool v.1)) rfl ?_)
    rcases Bool.eq_false_or_eq_true v.1 with h7 | h7
    · -- v.1
      refine s_off (b' := true) 10 rfl (congrArg Value.bool h7) rfl ?_
      refine s_off (b' := true) 10 rfl (congrArg Value.bool h7) rfl ?_
      refine s_off (b' := true) 10 rfl (congrArg Value.bool h7) rfl ?_
      refine s_on 7 rfl (congrArg Value.bool (decide_eq_true h6)) (o_pick_t (u := (.bool true)) ((rfl : _ = _).trans (congrArg Value.bool h7)) rfl ?_)
      refine s_op (o_pick_t (u := (.bool true)) ((rfl : _ = _).trans (congrArg Value.bool (decide_eq_true h6))) rfl ?_)
      refine s_op (o_assign (v := (.bool true)) rfl ?_)
      refine s_nil ?_
      refine t_norm (hK5 _ _ ?_)
      refine wp_ret ?_
      refine c_ret1 Tryz.results162  (v := (.bool true)) rfl ?_
      have q8 : (valR v) = true := by rw [Bool.eq_iff_iff]; first | (simp [valR, h6, h7]; done) | (simp_all [valR]; done)
      have hH9 : Has E w3 [R] := (hH4.front 1 rfl).first 1 rfl
      exact ⟨by rw [q8], hH9⟩
    · -- not: v.1
      refine s_on 10 rfl (congrArg Value.bool h7) (o_fieldAddr (k := 1) (fun _ => by kernel_rfl) rfl ?_)
      refine s_on 10 rfl (congrArg Value.bool h7) (o_load1 (v := (S v.2)) Tryz.underlying9 rfl rfl hH4 (seg_sub 0 rfl) (CellsAt.one rfl) ?_)
      refine s_on 10 rfl (congrArg Value.bool h7) (o_seql (a := v.2) (b := ([] : List UInt8)) rfl rfl ?_)
      refine s_on 7 rfl (congrArg Value.bool (decide_eq_true h6)) (o_pick_f (u := (.bool (decide (v.2 = ([] : List UInt8))))) ((rfl : _ = _).trans (congrArg Value.bool h7)) rfl ?_)
      refine s_op (o_pick_t (u := (.bool (decide (v.2 = ([] : List UInt8))))) ((rfl : _ = _).trans (congrArg Value.bool (decide_eq_true h6))) rfl ?_)
      refine s_op (o_assign (v := (.bool (decide (v.2 = ([] : List UInt8))))) rfl ?_)
      refine s_nil ?_
      refine t_norm (hK5 _ _ ?_)
      refine wp_ret ?_
      refine c_ret1 Tryz.results162  (v := (.bool (decide (v.2 = ([] : List UInt8))))) rfl ?_
      have q10 : (valR v) = decide (v.2 = ([] : List UInt8)) := by rw [Bool.eq_iff_iff]; first | (simp [valR, h6, h7]; done) | (simp_all [valR]; done)
      have hH11 : Has E w3 [R] := (hH4.front 1 rfl).first 1 rfl
      exact ⟨by rw [q10], hH11⟩
  · -- not: (v.2.length : Int) ≤ 16
    refine s_off (b' := false) 7 rfl (congrArg Value.bool (decide_eq_false h6)) rfl ?_
    refine s_off (b' := false) 7 rfl (congrArg Value.bool (decide_eq_false h6)) rfl ?_
    refine s_off (b' := false) 7 rfl (congrArg Value.bool (decide_eq_false h6)) rfl ?_
    refine s_offu 10 rfl rfl ?_
    refine s_offu 10 rfl rfl ?_
    refine s_offu 10 rfl rfl ?_
    refine s_off (b' := false) 7 rfl (congrArg Value.bool (decide_eq_false h6)) rfl ?_
    refine s_op (o_pick_f (u := (.bool false)) ((rfl : _ = _).trans (congrArg Value.bool (decide_eq_false h6))) rfl ?_)
    refine s_op (o_assign (v := (.bool false)) rfl ?_)
    refine s_nil ?_
    refine t_norm (hK5 _ _ ?_)
    refine wp_ret ?_
    refine c_ret1 Tryz.results162  (v := (.bool false)) rfl ?_
    have q12 : (valR v) = false := by rw [Bool.eq_iff_iff]; first | (simp [valR, h6]; done) | (simp_all [valR]; done)
    have hH13 : Has E w3 [R] := (hH4.front 1 rfl).first 1 rfl
    exact ⟨by rw [q12], hH13⟩
set_option maxHeartbeats 4000000 in
theorem sindexf_c {E w : World} {R : List Hp} {v_l : Value} {l : List (List UInt8)} {fn : FuncId} {first cap : Array Value} {va : Value → Array Value} {c : (List UInt8) → Bool}  (hH : Has E w [R]) (h_l : Sl R 1 v_l l.length (l.map sV)) (hcl : Callable Tryz.prog fn) (hva : ∀ v, first ++ #[v] ++ cap = va v) (hcb : ∀ {w : World} (F_ : List Hp) (x_ : List UInt8), Has E w [R, F_] → Calls Tryz.prog fn (va (S x_)) w fun e w' => e = .returned (.bool (c x_)) ∧ Has E w' [R, F_]) :
    Calls Tryz.prog 184 #[v_l, (.func (.func fn) first cap)] w fun e w' => e = .returned (.int .i64 (idxG c l)) ∧ Has E w' [R] := by
  have hn_ := h_l.le
  refine c_enter (args := [v_l, (.func (.func fn) first cap)]) Tryz.func184 rfl Tryz.ntmps184 (by simp) ?_
  refine wp_seq_k fun K1 hK1 => ?_
  refine c_region ?_
  refine s_op (o_assign (v := (.int .i64 0)) rfl ?_)
  refine s_nil ?_
  refine t_norm (hK1 _ _ ?_)
  refine wp_seq_k fun K2 hK2 => ?_
  refine wp_seq_k fun K3 hK3 => ?_
  refine c_region ?_
  refine s_op (o_move (v := v_l) rfl ?_)
  refine s_op (o_lenS Tryz.underlying102 rfl h_l ?_)
  refine s_op (o_move (v := (.int .i64 0)) rfl ?_)
  refine s_nil ?_
  refine t_norm (hK3 _ _ ?_)
  refine wp_block ?_
  let I5 : Nat → (Nat → Value) → World → Prop := fun n__ r__ w__ => ∃ (k : Nat), n__ = l.length - k ∧ Has E w__ [R] ∧ (k ≤ l.length) ∧ (∀ j, j < k → ∀ y, l[j]? = some y → c y = false) ∧ r__ 0 = v_l ∧ r__ 1 = (.func (.func fn) first cap) ∧ r__ 7 = (.int .i64 ((l.length : Nat) : Int)) ∧ r__ 8 = (.int .i64 (k : Int))
  refine c_loop I5 _ ⟨0, rfl, hH, Nat.zero_le _, fun j hj => by omega, rfl, rfl, rfl, rfl⟩ ?_
  rintro n_ r8 w6 ⟨k, rfl, hH7, hk, hf, e4_0, e4_1, e4_7, e4_8⟩
  refine wp_seq_k fun K9 hK9 => ?_
  refine c_region ?_
  refine s_op (o_lss (a := (k : Int)) (b := ((l.length : Nat) : Int)) e4_8 e4_7 ?_)
  refine s_nil ?_
  refine t_norm (hK9 _ _ ?_)
  refine wp_seq_k fun K10 hK10 => ?_
  refine c_cond rfl (fun h11 => ?_) (fun h11 => ?_)
  · -- (k : Int) < ((l.length : Nat) : Int)
    refine wp_skip ?_
    refine t_norm (hK10 _ _ ?_)
    refine wp_seq_k fun K12 hK12 => ?_
    refine wp_block ?_
    refine wp_seq_k fun K13 hK13 => ?_
    refine c_region ?_
    refine s_op (o_move (v := (.int .i64 (k : Int))) e4_8 ?_)
    refine s_op (o_assign (v := (.int .i64 (k : Int))) rfl ?_)
    refine s_nil ?_
    refine t_norm (hK13 _ _ ?_)
    refine wp_seq_k fun K14 hK14 => ?_
    refine c_region ?_
    refine s_op (o_move (v := (.func (.func fn) first cap)) e4_1 ?_)
    refine s_op (o_move (v := v_l) e4_0 ?_)
    refine s_op (o_move (v := (.int .i64 (k : Int))) rfl ?_)
    obtain ⟨x18, hx19⟩ : ∃ x_, l[((k : Int)).toNat]? = some x_ := get_some (by omega)
    refine s_op (o_index1 Tryz.underlying102 ti9 rfl h_l rfl (by omega) hx19 fun b15 o16 hc17 => ?_)
    refine s_op (o_load1 (v := (S x18)) Tryz.underlying9 rfl rfl hH7 (seg_sub 0 rfl) hc17 ?_)
    refine s_op (o_callf (first := first) (captured := cap) (vs := va (S x18)) hcl rfl ((argsG1 rfl).trans (hva _)) (hcb _ x18 hH7.all1) ?_)
    rintro _ w22 ⟨rfl, hX20⟩
    refine ⟨_, rfl, ?_⟩
    have hH21 := hX20.of_all1
    refine s_nil ?_
    refine t_norm (hK14 _ _ ?_)
    refine c_condb rfl (fun h23 => ?_) (fun h23 => ?_)
    · -- c x18
      refine wp_seq_k fun K24 hK24 => ?_
      refine c_region ?_
      refine s_op (o_move (v := (.int .i64 (k : Int))) rfl ?_)
      refine s_op (o_assign (v := (.int .i64 (k : Int))) rfl ?_)
      refine s_nil ?_
      refine t_norm (hK24 _ _ ?_)
      refine wp_ret ?_
      refine b_ret (t_ret (t_ret (b_ret (t_ret (c_ret1 Tryz.results184  (v := (.int .i64 (k : Int))) rfl ?_)))))
      have q25 : idxG c l = (k : Int) := by exact idxG_some hf (show l[k]? = some _ from hx19) h23
      exact ⟨by rw [q25], hH21⟩
    · -- not: c x18
      refine wp_skip ?_
      refine b_norm ?_
      refine t_norm (hK12 _ _ ?_)
      refine c_region ?_
      refine s_op (o_add (a := (k : Int)) (b := 1) e4_8 rfl (w64 (by omega) (by omega)) ?_)
      refine s_op (o_move (v := (.int .i64 ((k : Int) + 1))) rfl ?_)
      refine s_nil ?_
      refine t_norm ⟨l.length - (k + 1), _, rfl, ?_, ?_⟩
      · omega
      · exact ⟨(k + 1), rfl, hH21, (by omega), ((fun j hj y hy => by rcases Nat.lt_or_ge j k with g | g; exact hf j g y hy; obtain rfl : j = k := (by omega); have e_ := hy.symm.trans (show l[j]? = some _ from hx19); cases e_; exact h23)), e4_0, e4_1, e4_7, rfl⟩
  · -- not: (k : Int) < ((l.length : Nat) : Int)
    refine wp_exit ?_
    refine t_exit (t_exit (x_in (?_)))
    refine t_norm (hK2 _ _ ?_)
    refine wp_seq_k fun K26 hK26 => ?_
    refine c_region ?_
    refine s_op (o_assign (v := (.int .i64 (-1))) rfl ?_)
    refine s_nil ?_
    refine t_norm (hK26 _ _ ?_)
    refine wp_ret ?_
    refine c_ret1 Tryz.results184  (v := (.int .i64 (-1))) rfl ?_
    have q27 : idxG c l = -1 := by exact idxG_none fun j x hx => hf j (by have := (List.getElem?_eq_some_iff.1 hx).1; omega) x hx
    exact ⟨by rw [q27], hH7⟩
set_option maxHeartbeats 4000000 in
theorem scontainsf_c {E w : World} {R : List Hp} {v_l : Value} {l : List (List UInt8)} {fn : FuncId} {first cap : Array Value} {va : Value → Array Value} {c : (List UInt8) → Bool}  (hH : Has E w [R]) (h_l : Sl R 1 v_l l.length (l.map sV)) (hcl : Callable Tryz.prog fn) (hva : ∀ v, first ++ #[v] ++ cap = va v) (hcb : ∀ {w : World} (F_ : List Hp) (x_ : List UInt8), Has E w [R, F_] → Calls Tryz.prog fn (va (S x_)) w fun e w' => e = .returned (.bool (c x_)) ∧ Has E w' [R, F_]) :
    Calls Tryz.prog 175 #[v_l, (.func (.func fn) first cap)] w fun e w' => e = .returned (.bool (l.any c)) ∧ Has E w' [R] := by
  refine c_enter (args := [v_l, (.func (.func fn) first cap)]) Tryz.func175 rfl Tryz.ntmps175 (by simp) ?_
  refine wp_seq_k fun K1 hK1 => ?_
  refine c_region ?_
  refine s_op (o_assign (v := (.bool false)) rfl ?_)
  refine s_nil ?_
  refine t_norm (hK1 _ _ ?_)
  refine wp_seq_k fun K2 hK2 => ?_
  refine c_region ?_
  refine s_op (o_move (v := v_l) rfl ?_)
  refine s_op (o_move (v := (.func (.func fn) first cap)) rfl ?_)
  refine s_op (o_callf (vs := #[v_l, (.func (.func fn) first cap)]) ca184 rfl (args2 rfl rfl) (sindexf_c (l := l) (c := c) (va := va) hH.all (h_l.mono (seg_sub 0 rfl)) hcl hva (cb_more (α := List UInt8) (R := R) (va := fun x_ => va (S x_)) (A := fun x_ e_ => e_ = .returned (.bool (c x_))) hcb)) ?_)
  rintro _ w5 ⟨rfl, hX3⟩
  refine ⟨_, rfl, ?_⟩
  have hH4 := hX3.of_all
  refine s_op (o_geq (a := idxG c l) (b := 0) rfl rfl ?_)
  refine s_op (o_assign (v := (.bool (decide (0 ≤ idxG c l)))) rfl ?_)
  refine s_nil ?_
  refine t_norm (hK2 _ _ ?_)
  refine wp_ret ?_
  refine c_ret1 Tryz.results175  (v := (.bool (decide (0 ≤ idxG c l)))) rfl ?_
  have q6 : l.any c = decide (0 ≤ idxG c l) := by exact idxG_any.symm
  exact ⟨by rw [q6], hH4⟩
set_option maxHeartbeats 4000000 in
theorem all1s_c {E w : World} {R : List Hp} {x : Bs} {bx : Nat}  {fn : FuncId} {first cap : Array Value} {va : Value → Array Value} {c : (List UInt8) → Bool}  (hH : Has E w [R]) (h_bx : CellsAt R bx 0 [(.func (.func fn) first cap)]) (hcl : Callable Tryz.prog fn) (hva : ∀ v, first ++ #[v] ++ cap = va v) (hcb : ∀ {w : World} (F_ : List Hp) (x_ : List UInt8), Has E w [R, F_] → Calls Tryz.prog fn (va (S x_)) w fun e w' => e = .returned (.bool (c x_)) ∧ Has E w' [R, F_]) :
    Calls Tryz.prog 176 #[(S x), (.pointer (some ⟨bx, 0, none⟩))] w fun e w' => e = .returned (.bool (notP c x)) ∧ Has E w' [R] := by
  refine c_enter (args := [(S x), (.pointer (some ⟨bx, 0, none⟩))]) Tryz.func176 rfl Tryz.ntmps176 (by simp) ?_
  refine wp_seq_k fun K1 hK1 => ?_
  refine c_region ?_
  refine s_op (o_assign (v := (.bool false)) rfl ?_)
  refine s_nil ?_
  refine t_norm (hK1 _ _ ?_)
  refine wp_seq_k fun K2 hK2 => ?_
  refine c_region ?_
  refine s_op (o_load1 (v := (.func (.func fn) first cap)) Tryz.underlying108 rfl rfl hH (seg_sub 0 rfl) h_bx ?_)
  refine s_op (o_move (v := (S x)) rfl ?_)
  refine s_op (o_callf (first := first) (captured := cap) (vs := va (S x)) hcl rfl ((argsG1 rfl).trans (hva _)) (hcb _ x hH.all1) ?_)
  rintro _ w5 ⟨rfl, hX3⟩
  refine ⟨_, rfl, ?_⟩
  have hH4 := hX3.of_all1
  refine s_op (o_not rfl ?_)
  refine s_op (o_assign (v := (.bool (!(c x)))) rfl ?_)
  refine s_nil ?_
  refine t_norm (hK2 _ _ ?_)
  refine wp_ret ?_
  refine c_ret1 Tryz.results176  (v := (.bool (!(c x)))) rfl ?_
  have q6 : (notP c x) = !(c x) := by rfl
  exact ⟨by rw [q6], hH4⟩
set_option maxHeartbeats 4000000 in
theorem alls_c {E w : World} {R : List Hp} {v_l : Value} {l : List (List UInt8)} {fn : FuncId} {first cap : Array Value} {va : Value → Array Value} {c : (List UInt8) → Bool}  (hH : Has E w [R]) (h_l : Sl R 1 v_l l.length (l.map sV)) (hcl : Callable Tryz.prog fn) (hva : ∀ v, first ++ #[v] ++ cap = va v) (hcb : ∀ {w : World} (F_ : List Hp) (x_ : List UInt8), Has E w [R, F_] → Calls Tryz.prog fn (va (S x_)) w fun e w' => e = .returned (.bool (c x_)) ∧ Has E w' [R, F_]) :
    Calls Tryz.prog 161 #[v_l, (.func (.func fn) first cap)] w fun e w' => e = .returned (.bool (l.all c)) ∧ Has E w' [R] := by
  refine c_enter (args := [v_l, (.func (.func fn) first cap)]) Tryz.func161 rfl Tryz.ntmps161 (by simp) ?_
  refine wp_seq_k fun K1 hK1 => ?_
  refine c_region ?_
  refine s_op (o_box (cs := #[(.func (.func fn) first cap)]) rfl rfl hH fun b2 w3 hH4 => ?_)
  refine s_op (o_assign (v := (.bool false)) rfl ?_)
  refine s_nil ?_
  refine t_norm (hK1 _ _ ?_)
  refine wp_seq_k fun K5 hK5 => ?_
  refine c_region ?_
  refine s_op (o_move (v := v_l) rfl ?_)
  refine s_op (o_makeFunc (vs := #[(.pointer (some ⟨b2, 0, none⟩))]) (cap1 rfl) ?_)
  refine s_op (o_callf (vs := #[v_l, (.func (.func 176) #[] #[(.pointer (some ⟨b2, 0, none⟩))])]) ca175 rfl (args2 rfl rfl) (scontainsf_c (l := l) (c := notP c) (va := fun v_ => #[v_, (.pointer (some ⟨b2, 0, none⟩))]) hH4.all (h_l.mono (seg_sub 1 rfl)) ca176 (fun _ => by simp) (fun F_ x_ h_ => Calls.frameF (all1s_c (x := x_) (c := c) (va := va) h_.all ((CellsAt.one rfl).mono (fun _ g_ => sub_l ((seg_sub 0 rfl) g_))) hcl hva (cb_mid (α := List UInt8) (va := fun x_ => va (S x_)) (A := fun x_ e_ => e_ = .returned (.bool (c x_))) hcb)))) ?_)
  rintro _ w8 ⟨rfl, hX6⟩
  refine ⟨_, rfl, ?_⟩
  have hH7 := hX6.of_all
  refine s_op (o_not rfl ?_)
  refine s_op (o_assign (v := (.bool (!(l.any (notP c))))) rfl ?_)
  refine s_nil ?_
  refine t_norm (hK5 _ _ ?_)
  refine wp_ret ?_
  refine c_ret1 Tryz.results161  (v := (.bool (!(l.any (notP c))))) rfl ?_
  have q9 : (l.all c) = !(l.any (notP c)) := by exact (any_notP c l).symm
  have hH10 : Has E w8 [R] := (hH7.front 1 rfl).first 1 rfl
  exact ⟨by rw [q9], hH10⟩
set_option maxHeartbeats 4000000 in
theorem vindexf_c {E w : World} {R : List Hp} {v_l : Value} {l : List (Bool × Bs)} {fn : FuncId} {first cap : Array Value} {va : Value → Array Value} {c : (Bool × Bs) → Bool}  (hH : Has E w [R]) (h_l : Sl R 2 v_l l.length (l.flatMap vlC)) (hcl : Callable Tryz.prog fn) (hva : ∀ v, first ++ #[v] ++ cap = va v) (hcb : ∀ {w : World} (F_ : List Hp) (x_ : Bool × Bs), Has E w [R, F_] → Calls Tryz.prog fn (va (.agg #[(.bool x_.1), (S x_.2)])) w fun e w' => e = .returned (.bool (c x_)) ∧ Has E w' [R, F_]) :
    Calls Tryz.prog 185 #[v_l, (.func (.func fn) first cap)] w fun e w' => e = .returned (.int .i64 (idxG c l)) ∧ Has E w' [R] := by
  have hn_ := h_l.le
  refine c_enter (args := [v_l, (.func (.func fn) first cap)]) Tryz.func185 rfl Tryz.ntmps185 (by simp) ?_
  refine wp_seq_k fun K1 hK1 => ?_
  refine c_region ?_
  refine s_op (o_assign (v := (.int .i64 0)) rfl ?_)
  refine s_nil ?_
  refine t_norm (hK1 _ _ ?_)
  refine wp_seq_k fun K2 hK2 => ?_
  refine wp_seq_k fun K3 hK3 => ?_
  refine c_region ?_
  refine s_op (o_move (v := v_l) rfl ?_)
  refine s_op (o_lenS Tryz.underlying202 rfl h_l ?_)
  refine s_op (o_move (v := (.int .i64 0)) rfl ?_)
  refine s_nil ?_
  refine t_norm (hK3 _ _ ?_)
  refine wp_block ?_
  let I5 : Nat → (Nat → Value) → World → Prop := fun n__ r__ w__ => ∃ (k : Nat), n__ = l.length - k ∧ Has E w__ [R] ∧ (k ≤ l.length) ∧ (∀ j, j < k → ∀ y, l[j]? = some y → c y = false) ∧ r__ 0 = v_l ∧ r__ 1 = (.func (.func fn) first cap) ∧ r__ 7 = (.int .i64 ((l.length : Nat) : Int)) ∧ r__ 8 = (.int .i64 (k : Int))
  refine c_loop I5 _ ⟨0, rfl, hH, Nat.zero_le _, fun j hj => by omega, rfl, rfl, rfl, rfl⟩ ?_
  rintro n_ r8 w6 ⟨k, rfl, hH7, hk, hf, e4_0, e4_1, e4_7, e4_8⟩
  refine wp_seq_k fun K9 hK9 => ?_
  refine c_region ?_
  refine s_op (o_lss (a := (k : Int)) (b := ((l.length : Nat) : Int)) e4_8 e4_7 ?_)
  refine s_nil ?_
  refine t_norm (hK9 _ _ ?_)
  refine wp_seq_k fun K10 hK10 => ?_
  refine c_cond rfl (fun h11 => ?_) (fun h11 => ?_)
  · -- (k : Int) < ((l.length : Nat) : Int)
    refine wp_skip ?_
    refine t_norm (hK10 _ _ ?_)
    refine wp_seq_k fun K12 hK12 => ?_
    refine wp_block ?_
    refine wp_seq_k fun K13 hK13 => ?_
    refine c_region ?_
    refine s_op (o_move (v := (.int .i64 (k : Int))) e4_8 ?_)
    refine s_op (o_assign (v := (.int .i64 (k : Int))) rfl ?_)
    refine s_nil ?_
    refine t_norm (hK13 _ _ ?_)
    refine wp_seq_k fun K14 hK14 => ?_
    refine c_region ?_
    refine s_op (o_move (v := (.func (.func fn) first cap)) e4_1 ?_)
    refine s_op (o_move (v := v_l) e4_0 ?_)
    refine s_op (o_move (v := (.int .i64 (k : Int))) rfl ?_)
    obtain ⟨x18, hx19⟩ : ∃ x_, l[((k : Int)).toNat]? = some x_ := get_some (by omega)
    refine s_op (o_indexF vlC_len Tryz.underlying202 ti62 rfl h_l rfl rfl (by omega) hx19 fun b15 o16 hc17 => ?_)
    refine s_op (o_loadN (cs := [(.bool x18.1), (S x18.2)]) Tryz.underlying62 rfl ti62 rfl hH7 (seg_sub 0 rfl) hc17 ?_)
    refine s_op (o_callf (first := first) (captured := cap) (vs := va (.agg #[(.bool x18.1), (S x18.2)])) hcl rfl ((argsG1 rfl).trans (hva _)) (hcb _ x18 hH7.all1) ?_)
    rintro _ w22 ⟨rfl, hX20⟩
    refine ⟨_, rfl, ?_⟩
    have hH21 := hX20.of_all1
    refine s_nil ?_
    refine t_norm (hK14 _ _ ?_)
    refine c_condb rfl (fun h23 => ?_) (fun h23 => ?_)
    · -- c x18
      refine wp_seq_k fun K24 hK24 => ?_
      refine c_region ?_
      refine s_op (o_move (v := (.int .i64 (k : Int))) rfl ?_)
      refine s_op (o_assign (v := (.int .i64 (k : Int))) rfl ?_)
      refine s_nil ?_
      refine t_norm (hK24 _ _ ?_)
      refine wp_ret ?_
      refine b_ret (t_ret (t_ret (b_ret (t_ret (c_ret1 Tryz.results185  (v := (.int .i64 (k : Int))) rfl ?_)))))
      have q25 : idxG c l = (k : Int) := by exact idxG_some hf (show l[k]? = some _ from hx19) h23
      exact ⟨by rw [q25], hH21⟩
    · -- not: c x18
      refine wp_skip ?_
      refine b_norm ?_
      refine t_norm (hK12 _ _ ?_)
      refine c_region ?_
      refine s_op (o_add (a := (k : Int)) (b := 1) e4_8 rfl (w64 (by omega) (by omega)) ?_)
      refine s_op (o_move (v := (.int .i64 ((k : Int) + 1))) rfl ?_)
      refine s_nil ?_
      refine t_norm ⟨l.length - (k + 1), _, rfl, ?_, ?_⟩
      · omega
      · exact ⟨(k + 1), rfl, hH21, (by omega), ((fun j hj y hy => by rcases Nat.lt_or_ge j k with g | g; exact hf j g y hy; obtain rfl : j = k := (by omega); have e_ := hy.symm.trans (show l[j]? = some _ from hx19); cases e_; exact h23)), e4_0, e4_1, e4_7, rfl⟩
  · -- not: (k : Int) < ((l.length : Nat) : Int)
    refine wp_exit ?_
    refine t_exit (t_exit (x_in (?_)))
    refine t_norm (hK2 _ _ ?_)
    refine wp_seq_k fun K26 hK26 => ?_
    refine c_region ?_
    refine s_op (o_assign (v := (.int .i64 (-1))) rfl ?_)
    refine s_nil ?_
    refine t_norm (hK26 _ _ ?_)
    refine wp_ret ?_
    refine c_ret1 Tryz.results185  (v := (.int .i64 (-1))) rfl ?_
    have q27 : idxG c l = -1 := by exact idxG_none fun j x hx => hf j (by have := (List.getElem?_eq_some_iff.1 hx).1; omega) x hx
    exact ⟨by rw [q27], hH7⟩
set_option maxHeartbeats 4000000 in
theorem vcontainsf_c {E w : World} {R : List Hp} {v_l : Value} {l : List (Bool × Bs)} {fn : FuncId} {first cap : Array Value} {va : Value → Array Value} {c : (Bool × Bs) → Bool}  (hH : Has E w [R]) (h_l : Sl R 2 v_l l.length (l.flatMap vlC)) (hcl : Callable Tryz.prog fn) (hva : ∀ v, first ++ #[v] ++ cap = va v) (hcb : ∀ {w : World} (F_ : List Hp) (x_ : Bool × Bs), Has E w [R, F_] → Calls Tryz.prog fn (va (.agg #[(.bool x_.1), (S x_.2)])) w fun e w' => e = .returned (.bool (c x_)) ∧ Has E w' [R, F_]) :
    Calls Tryz.prog 177 #[v_l, (.func (.func fn) first cap)] w fun e w' => e = .returned (.bool (l.any c)) ∧ Has E w' [R] := by
  refine c_enter (args := [v_l, (.func (.func fn) first cap)]) Tryz.func177 rfl Tryz.ntmps177 (by simp) ?_
  refine wp_seq_k fun K1 hK1 => ?_
  refine c_region ?_
  refine s_op (o_assign (v := (.bool false)) rfl ?_)
  refine s_nil ?_
  refine t_norm (hK1 _ _ ?_)
  refine wp_seq_k fun K2 hK2 => ?_
  refine c_region ?_
  refine s_op (o_move (v := v_l) rfl ?_)
  refine s_op (o_move (v := (.func (.func fn) first cap)) rfl ?_)
  refine s_op (o_callf (vs := #[v_l, (.func (.func fn) first cap)]) ca185 rfl (args2 rfl rfl) (vindexf_c (l := l) (c := c) (va := va) hH.all (h_l.mono (seg_sub 0 rfl)) hcl hva (cb_more (α := Bool × Bs) (R := R) (va := fun x_ => va (.agg #[(.bool x_.1), (S x_.2)])) (A := fun x_ e_ => e_ = .returned (.bool (c x_))) hcb)) ?_)
  rintro _ w5 ⟨rfl, hX3⟩
  refine ⟨_, rfl, ?_⟩
  have hH4 := hX3.of_all
  refine s_op (o_geq (a := idxG c l) (b := 0) rfl rfl ?_)
  refine s_op (o_assign (v := (.bool (decide (0 ≤ idxG c l)))) rfl ?_)
  refine s_nil ?_
  refine t_norm (hK2 _ _ ?_)
  refine wp_ret ?_
  refine c_ret1 Tryz.results177  (v := (.bool (decide (0 ≤ idxG c l)))) rfl ?_
  have q6 : l.any c = decide (0 ≤ idxG c l) := by exact idxG_any.symm
  exact ⟨by rw [q6], hH4⟩
set_option maxHeartbeats 4000000 in
theorem all1v_c {E w : World} {R : List Hp} {x : Bool × Bs} {bx : Nat}  {fn : FuncId} {first cap : Array Value} {va : Value → Array Value} {c : (Bool × Bs) → Bool}  (hH : Has E w [R]) (h_bx : CellsAt R bx 0 [(.func (.func fn) first cap)]) (hcl : Callable Tryz.prog fn) (hva : ∀ v, first ++ #[v] ++ cap = va v) (hcb : ∀ {w : World} (F_ : List Hp) (x_ : Bool × Bs), Has E w [R, F_] → Calls Tryz.prog fn (va (.agg #[(.bool x_.1), (S x_.2)])) w fun e w' => e = .returned (.bool (c x_)) ∧ Has E w' [R, F_]) :
    Calls Tryz.prog 178 #[(.agg #[(.bool x.1), (S x.2)]), (.pointer (some ⟨bx, 0, none⟩))] w fun e w' => e = .returned (.bool (notP c x)) ∧ Has E w' [R] := by
  refine c_enter (args := [(.agg #[(.bool x.1), (S x.2)]), (.pointer (some ⟨bx, 0, none⟩))]) Tryz.func178 rfl Tryz.ntmps178 (by simp) ?_
  refine wp_seq_k fun K1 hK1 => ?_
  refine c_region ?_
  refine s_op (o_box (cs := #[(.bool x.1), (S x.2)]) rfl rfl hH fun b2 w3 hH4 => ?_)
  refine s_op (o_assign (v := (.bool false)) rfl ?_)
  refine s_nil ?_
  refine t_norm (hK1 _ _ ?_)
  refine wp_seq_k fun K5 hK5 => ?_
  refine c_region ?_
  refine s_op (o_load1 (v := (.func (.func fn) first cap)) Tryz.underlying121 rfl rfl hH4 (seg_sub 1 rfl) h_bx ?_)
  refine s_op (o_loadN (cs := [(.bool x.1), (S x.2)]) Tryz.underlying62 rfl ti62 rfl hH4 (seg_sub 0 rfl) (CellsAt.one rfl) ?_)
  refine s_op (o_callf (first := first) (captured := cap) (vs := va (.agg #[(.bool x.1), (S x.2)])) hcl rfl ((argsG1 rfl).trans (hva _)) (hcb _ (x.1, x.2) (hH4.front 1 rfl).all1) ?_)
  rintro _ w8 ⟨rfl, hX6⟩
  refine ⟨_, rfl, ?_⟩
  have hH7 := hX6.of_all1
  refine s_op (o_not rfl ?_)
  refine s_op (o_assign (v := (.bool (!(c (x.1, x.2))))) rfl ?_)
  refine s_nil ?_
  refine t_norm (hK5 _ _ ?_)
  refine wp_ret ?_
  refine c_ret1 Tryz.results178  (v := (.bool (!(c (x.1, x.2))))) rfl ?_
  have q9 : (notP c x) = !(c (x.1, x.2)) := by rfl
  have hH10 : Has E w8 [R] := hH7.first 1 rfl
  exact ⟨by rw [q9], hH10⟩
set_option maxHeartbeats 4000000 in
theorem allv_c {E w : World} {R : List Hp} {v_l : Value} {l : List (Bool × Bs)} {fn : FuncId} {first cap : Array Value} {va : Value → Array Value} {c : (Bool × Bs) → Bool}  (hH : Has E w [R]) (h_l : Sl R 2 v_l l.length (l.flatMap vlC)) (hcl : Callable Tryz.prog fn) (hva : ∀ v, first ++ #[v] ++ cap = va v) (hcb : ∀ {w : World} (F_ : List Hp) (x_ : Bool × Bs), Has E w [R, F_] → Calls Tryz.prog fn (va (.agg #[(.bool x_.1), (S x_.2)])) w fun e w' => e = .returned (.bool (c x_)) ∧ Has E w' [R, F_]) :
    Calls Tryz.prog 163 #[v_l, (.func (.func fn) first cap)] w fun e w' => e = .returned (.bool (l.all c)) ∧ Has E w' [R] := by
  refine c_enter (args := [v_l, (.func (.func fn) first cap)]) Tryz.func163 rfl Tryz.ntmps163 (by simp) ?_
  refine wp_seq_k fun K1 hK1 => ?_
  refine c_region ?_
  refine s_op (o_box (cs := #[(.func (.func fn) first cap)]) rfl rfl hH fun b2 w3 hH4 => ?_)
  refine s_op (o_assign (v := (.bool false)) rfl ?_)
  refine s_nil ?_
  refine t_norm (hK1 _ _ ?_)
  refine wp_seq_k fun K5 hK5 => ?_
  refine c_region ?_
  refine s_op (o_move (v := v_l) rfl ?_)
  refine s_op (o_makeFunc (vs := #[(.pointer (some ⟨b2, 0, none⟩))]) (cap1 rfl) ?_)
  refine s_op (o_callf (vs := #[v_l, (.func (.func 178) #[] #[(.pointer (some ⟨b2, 0, none⟩))])]) ca177 rfl (args2 rfl rfl) (vcontainsf_c (l := l) (c := notP c) (va := fun v_ => #[v_, (.pointer (some ⟨b2, 0, none⟩))]) hH4.all (h_l.mono (seg_sub 1 rfl)) ca178 (fun _ => by simp) (fun F_ x_ h_ => Calls.frameF (all1v_c (x := x_) (c := c) (va := va) h_.all ((CellsAt.one rfl).mono (fun _ g_ => sub_l ((seg_sub 0 rfl) g_))) hcl hva (cb_mid (α := Bool × Bs) (va := fun x_ => va (.agg #[(.bool x_.1), (S x_.2)])) (A := fun x_ e_ => e_ = .returned (.bool (c x_))) hcb)))) ?_)
  rintro _ w8 ⟨rfl, hX6⟩
  refine ⟨_, rfl, ?_⟩
  have hH7 := hX6.of_all
  refine s_op (o_not rfl ?_)
  refine s_op (o_assign (v := (.bool (!(l.any (notP c))))) rfl ?_)
  refine s_nil ?_
  refine t_norm (hK5 _ _ ?_)
  refine wp_ret ?_
  refine c_ret1 Tryz.results163  (v := (.bool (!(l.any (notP c))))) rfl ?_
  have q9 : (l.all c) = !(l.any (notP c)) := by exact (any_notP c l).symm
  have hH10 : Has E w8 [R] := (hH7.front 1 rfl).first 1 rfl
  exact ⟨by rw [q9], hH10⟩
set_option maxHeartbeats 4000000 in
theorem key_c {E w : World} {R : List Hp} {v_l : Value} {l : List (List UInt8)}  (hH : Has E w [R]) (h_l : Sl R 1 v_l l.length (l.map sV)) :
    Calls Tryz.prog 137 #[v_l] w fun e w' => e = .returned (.bool (l.all keyR)) ∧ Has E w' [R] := by
  refine c_enter (args := [v_l]) Tryz.func137 rfl Tryz.ntmps137 (by simp) ?_
  refine wp_seq_k fun K1 hK1 => ?_
  refine c_region ?_
  refine s_op (o_assign (v := (.bool false)) rfl ?_)
  refine s_nil ?_
  refine t_norm (hK1 _ _ ?_)
  refine wp_seq_k fun K2 hK2 => ?_
  refine c_region ?_
  refine s_op (o_assign (v := (.func (.func 160) #[] #[])) rfl ?_)
  refine s_nil ?_
  refine t_norm (hK2 _ _ ?_)
  refine wp_seq_k fun K3 hK3 => ?_
  refine c_region ?_
  refine s_op (o_move (v := v_l) rfl ?_)
  refine s_op (o_move (v := (.func (.func 160) #[] #[])) rfl ?_)
  refine s_op (o_callf (vs := #[v_l, (.func (.func 160) #[] #[])]) ca161 rfl (args2 rfl rfl) (alls_c (l := l) (c := keyR) (va := fun v_ => #[v_]) hH.all (h_l.mono (seg_sub 0 rfl)) ca160 (fun _ => by simp) (fun F_ x_ h_ => Calls.frameF (keyf_c (k := x_) h_.all))) ?_)
  rintro _ w6 ⟨rfl, hX4⟩
  refine ⟨_, rfl, ?_⟩
  have hH5 := hX4.of_all
  refine s_op (o_assign (v := (.bool (l.all keyR))) rfl ?_)
  refine s_nil ?_
  refine t_norm (hK3 _ _ ?_)
  refine wp_ret ?_
  refine c_ret1 Tryz.results137  (v := (.bool (l.all keyR))) rfl ?_
  exact ⟨rfl, hH5⟩
set_option maxHeartbeats 4000000 in
theorem value_c {E w : World} {R : List Hp} {v_l : Value} {l : List (Bool × Bs)}  (hH : Has E w [R]) (h_l : Sl R 2 v_l l.length (l.flatMap vlC)) :
    Calls Tryz.prog 138 #[v_l] w fun e w' => e = .returned (.bool (l.all valR)) ∧ Has E w' [R] := by
  refine c_enter (args := [v_l]) Tryz.func138 rfl Tryz.ntmps138 (by simp) ?_
  refine wp_seq_k fun K1 hK1 => ?_
  refine c_region ?_
  refine s_op (o_assign (v := (.bool false)) rfl ?_)
  refine s_nil ?_
  refine t_norm (hK1 _ _ ?_)
  refine wp_seq_k fun K2 hK2 => ?_
  refine c_region ?_
  refine s_op (o_assign (v := (.func (.func 162) #[] #[])) rfl ?_)
  refine s_nil ?_
  refine t_norm (hK2 _ _ ?_)
  refine wp_seq_k fun K3 hK3 => ?_
  refine c_region ?_
  refine s_op (o_move (v := v_l) rfl ?_)
  refine s_op (o_move (v := (.func (.func 162) #[] #[])) rfl ?_)
  refine s_op (o_callf (vs := #[v_l, (.func (.func 162) #[] #[])]) ca163 rfl (args2 rfl rfl) (allv_c (l := l) (c := valR) (va := fun v_ => #[v_]) hH.all (h_l.mono (seg_sub 0 rfl)) ca162 (fun _ => by simp) (fun F_ x_ h_ => Calls.frameF (valf_c (v := x_) h_.all))) ?_)
  rintro _ w6 ⟨rfl, hX4⟩
  refine ⟨_, rfl, ?_⟩
  have hH5 := hX4.of_all
  refine s_op (o_assign (v := (.bool (l.all valR))) rfl ?_)
  refine s_nil ?_
  refine t_norm (hK3 _ _ ?_)
  refine wp_ret ?_
  refine c_ret1 Tryz.results138  (v := (.bool (l.all valR))) rfl ?_
  exact ⟨rfl, hH5⟩
set_option maxHeartbeats 4000000 in
theorem rhas_c {E w : World} {R : List Hp} {s : Bs}  (hH : Has E w [R]) :
    Calls Tryz.prog 139 #[(S s)] w fun e w' => e = .returned (.agg #[(.bool true), (S s)]) ∧ Has E w' [R] := by
  refine c_enter (args := [(S s)]) Tryz.func139 rfl Tryz.ntmps139 (by simp) ?_
  refine wp_seq_k fun K1 hK1 => ?_
  refine c_region ?_
  refine s_op (o_alloc (cs := #[(.bool false), (S ([] : List UInt8))]) ti62 rfl hH fun b2 w3 hH4 => ?_)
  refine s_nil ?_
  refine t_norm (hK1 _ _ ?_)
  refine wp_seq_k fun K5 hK5 => ?_
  refine c_region ?_
  refine s_op (o_move (v := (S s)) rfl ?_)
  refine s_op (o_sight (v := (.agg #[(.bool true), (S s)])) (fun _ => by kernel_rfl) ?_)
  refine s_eff (o_storeN (vs := [(.bool true), (S s)]) (c' := #[(.bool true), (S s)]) ti62 rfl rfl rfl rfl (by intro u hu; simp only [List.mem_cons, List.not_mem_nil, or_false] at hu; rcases hu with rfl | rfl <;> first | rfl) (by simp) (by kernel_rfl) (hH4.front 0 rfl) fun w6 hH7 => ?_)
  refine s_nil ?_
  refine t_norm (hK5 _ _ ?_)
  refine wp_ret ?_
  refine c_retC1 Tryz.results139 rfl (run_loadVarN (cs := [(.bool true), (S s)]) Tryz.underlying62 rfl ti62 hH7 (seg_sub 0 rfl) (CellsAt.one rfl)) ?_
  have hH8 : Has E w6 [R] := (hH7.front 1 rfl).first 1 rfl
  exact ⟨rfl, hH8⟩
end Go.Q
namespace Go.Q
open Go.Proofs
set_option linter.unusedVariables false
set_option maxRecDepth 100000
attribute [local irreducible] wpList OK Code.wp
set_option maxHeartbeats 4000000 in
theorem cells_c {E w : World} {R : List Hp} {v_l : Value} {l : List Cel}  (hH : Has E w [R]) (h_l : Sl R 2 v_l l.length (l.flatMap ceC)) :
    Calls Tryz.prog 113 #[v_l] w fun e w' => e = .returned (.bool (cellsR l)) ∧ Has E w' [R] := by
  have hn_ := h_l.le
  refine c_enter (args := [v_l]) Tryz.func113 rfl Tryz.ntmps113 (by simp) ?_
  refine wp_seq_k fun K1 hK1 => ?_
  refine c_region ?_
  refine s_op (o_assign (v := (.bool false)) rfl ?_)
  refine s_nil ?_
  refine t_norm (hK1 _ _ ?_)
  refine wp_seq_k fun K2 hK2 => ?_
  refine wp_seq_k fun K3 hK3 => ?_
  refine c_region ?_
  refine s_op (o_move (v := v_l) rfl ?_)
  refine s_op (o_lenS Tryz.underlying34 rfl h_l ?_)
  refine s_op (o_move (v := (.int .i64 0)) rfl ?_)
  refine s_nil ?_
  refine t_norm (hK3 _ _ ?_)
  refine wp_block ?_
  let I5 : Nat → (Nat → Value) → World → Prop := fun n__ r__ w__ => ∃ (k : Nat), n__ = l.length - k ∧ Has E w__ [R] ∧ (k ≤ l.length) ∧ ((l.take k).all celOk = true) ∧ (Rises (l.take k)) ∧ r__ 0 = v_l ∧ r__ 5 = v_l ∧ r__ 6 = (.int .i64 ((l.length : Nat) : Int)) ∧ r__ 7 = (.int .i64 (k : Int))
  refine c_loop I5 _ ⟨0, rfl, hH, Nat.zero_le _, rfl, List.Pairwise.nil, rfl, rfl, rfl, rfl⟩ ?_
  rintro n_ r8 w6 ⟨k, rfl, hH7, hk, ha, hr, e4_0, e4_5, e4_6, e4_7⟩
  refine wp_seq_k fun K9 hK9 => ?_
  refine c_region ?_
  refine s_op (o_lss (a := (k : Int)) (b := ((l.length : Nat) : Int)) e4_7 e4_6 ?_)
  refine s_nil ?_
  refine t_norm (hK9 _ _ ?_)
  refine wp_seq_k fun K10 hK10 => ?_
  refine c_cond rfl (fun h11 => ?_) (fun h11 => ?_)
  · -- (k : Int) < ((l.length : Nat) : Int)
    refine wp_skip ?_
    refine t_norm (hK10 _ _ ?_)
    refine wp_seq_k fun K12 hK12 => ?_
    refine wp_block ?_
    refine wp_seq_k fun K13 hK13 => ?_
    refine c_region ?_
    refine s_op (o_move (v := (.int .i64 (k : Int))) e4_7 ?_)
    obtain ⟨x17, hx18⟩ : ∃ x_, l[((k : Int)).toNat]? = some x_ := get_some (by omega)
    refine s_op (o_indexF ceC_len Tryz.underlying34 ti70 e4_5 h_l rfl e4_7 (by omega) hx18 fun b14 o15 hc16 => ?_)
    refine s_op (o_loadN (cs := [(S x17.1), (S x17.2)]) Tryz.underlying70 rfl ti70 rfl hH7 (seg_sub 0 rfl) hc16 ?_)
    refine s_op (o_alloc (cs := #[(S ([] : List UInt8)), (S ([] : List UInt8))]) ti70 rfl hH7 fun b19 w20 hH21 => ?_)
    refine s_op (o_assign (v := (.int .i64 (k : Int))) rfl ?_)
    refine s_eff (o_storeN (vs := [(S x17.1), (S x17.2)]) (c' := #[(S x17.1), (S x17.2)]) ti70 rfl rfl rfl rfl (by intro u hu; simp only [List.mem_cons, List.not_mem_nil, or_false] at hu; rcases hu with rfl | rfl <;> first | rfl) (by simp) (by kernel_rfl) (hH21.front 0 rfl) fun w22 hH23 => ?_)
    refine s_nil ?_
    refine t_norm (hK13 _ _ ?_)
    refine wp_seq_k fun K24 hK24 => ?_
    refine Rest.region mixed (by kernel_rfl) ?_
    have hH25 : Has E { w22 with drawn := w22.drawn + 1 } [[Hp.one b19 (.cells #[(S x17.1), (S x17.2)] 70 (0, 0))], R] := Has0.drew hH23 _
    refine r_op 0 rfl (by kernel_rfl) (o_fieldAddr (k := 0) (fun _ => by kernel_rfl) rfl ?_)
    refine r_op 1 rfl (by kernel_rfl) (o_load1 (v := (S x17.1)) Tryz.underlying9 rfl rfl hH25 (seg_sub 0 rfl) (CellsAt.one rfl) ?_)
    refine r_op 2 rfl (by kernel_rfl) (o_buildSlice (ps := #[(0, (S x17.1))]) (cells := #[(S x17.1)]) Tryz.underlying102 ti9 (by decide) (parts1 rfl) (by kernel_rfl) hH25 fun b26 w27 hH28 => ?_)
    refine r_op 3 rfl (by kernel_rfl) (o_callf (vs := #[(.slice (some ⟨b26, 0, none⟩) 1 1)]) ca137 rfl (args1 rfl) (key_c (l := [x17.1]) hH28.all ((sl_lit (f := sV) (l := [x17.1]) rfl rfl (by simp)).mono (seg_sub 0 rfl))) ?_)
    rintro _ w31 ⟨rfl, hX29⟩
    refine ⟨_, rfl, ?_⟩
    have hH30 := hX29.of_all
    refine r_op 4 rfl (by kernel_rfl) (o_not rfl ?_)
    refine r_op 5 rfl (by kernel_rfl) (o_move (v := (.bool (!([x17.1].all keyR)))) rfl ?_)
    rcases Bool.eq_false_or_eq_true (!([x17.1].all keyR)) with h32 | h32
    · -- !([x17.1].all keyR)
      refine r_off (b' := true) 6 rfl (by kernel_rfl) 17 rfl (congrArg Value.bool h32) rfl ?_
      refine r_off (b' := true) 7 rfl (by kernel_rfl) 17 rfl (congrArg Value.bool h32) rfl ?_
      refine r_off (b' := true) 8 rfl (by kernel_rfl) 17 rfl (congrArg Value.bool h32) rfl ?_
      refine r_off (b' := true) 9 rfl (by kernel_rfl) 17 rfl (congrArg Value.bool h32) rfl ?_
      refine r_off (b' := true) 10 rfl (by kernel_rfl) 17 rfl (congrArg Value.bool h32) rfl ?_
      refine r_off (b' := true) 11 rfl (by kernel_rfl) 17 rfl (congrArg Value.bool h32) rfl ?_
      refine r_op 12 rfl (by kernel_rfl) (o_pick_t (u := (.bool true)) ((rfl : _ = _).trans (congrArg Value.bool h32)) rfl ?_)
      refine r_op 13 rfl (by kernel_rfl) (o_move (v := (.bool true)) rfl ?_)
      refine r_off (b' := true) 14 rfl (by kernel_rfl) 25 rfl rfl rfl ?_
      refine r_off (b' := true) 15 rfl (by kernel_rfl) 25 rfl rfl rfl ?_
      refine r_off (b' := true) 16 rfl (by kernel_rfl) 25 rfl rfl rfl ?_
      refine Rest.phaseA (fun w_ => Has E w_ []) 17 25 8 rfl (by decide) (by kernel_rfl) ?_
      refine a_offu 17 rfl (by kernel_rfl) 28 rfl rfl ?_
      refine a_offu 18 rfl (by kernel_rfl) 28 rfl rfl ?_
      refine a_offu 19 rfl (by kernel_rfl) 28 rfl rfl ?_
      refine a_offu 20 rfl (by kernel_rfl) 28 rfl rfl ?_
      refine a_offu 21 rfl (by kernel_rfl) 28 rfl rfl ?_
      refine a_offu 22 rfl (by kernel_rfl) 28 rfl rfl ?_
      refine a_offu 23 rfl (by kernel_rfl) 28 rfl rfl ?_
      refine a_offu 24 rfl (by kernel_rfl) 28 rfl rfl ?_
      have hH33 : Has E w31 [] := hH30.first 0 rfl
      refine a_done (by kernel_rfl) hH33 ?_
      refine r_offu 25 rfl (by kernel_rfl) 28 rfl rfl ?_
      refine r_off (b' := true) 26 rfl (by kernel_rfl) 25 rfl rfl rfl ?_
      refine r_op 27 rfl (by kernel_rfl) (o_pick_t (u := (.bool true)) rfl rfl ?_)
      refine Rest.done (by kernel_rfl) ?_
      refine t_norm (hK24 _ _ ?_)
      refine c_true rfl rfl ?_
      refine wp_seq_k fun K34 hK34 => ?_
      refine c_region ?_
      refine s_op (o_assign (v := (.bool false)) rfl ?_)
      refine s_nil ?_
      refine t_norm (hK34 _ _ ?_)
      refine wp_ret ?_
      refine b_ret (t_ret (t_ret (b_ret (t_ret (c_ret1 Tryz.results113  (v := (.bool false)) rfl ?_)))))
      have q35 : (cellsR l) = false := by exact cells_no1 hx18 (by (have h1_ := h32; simp only [List.all_cons, List.all_nil, Bool.and_true] at h1_; simp only [celOk]; rw [show keyR x17.1 = false by simpa using h1_]; rfl))
      have hH36 : Has E w31 [R] := (hH30.front 2 rfl).first 1 rfl
      exact ⟨by rw [q35], hH36⟩
    · -- not: !([x17.1].all keyR)
      refine r_on 6 rfl (by kernel_rfl) 17 rfl (congrArg Value.bool h32) (o_fieldAddr (k := 1) (fun _ => by kernel_rfl) rfl ?_)
      refine r_on 7 rfl (by kernel_rfl) 17 rfl (congrArg Value.bool h32) (o_load1 (v := (S x17.2)) Tryz.underlying9 rfl rfl hH30 (seg_sub 1 rfl) (CellsAt.one rfl) ?_)
      refine r_on 8 rfl (by kernel_rfl) 17 rfl (congrArg Value.bool h32) (o_callf (vs := #[(S x17.2)]) ca139 rfl (args1 rfl) (rhas_c (s := x17.2) hH30.all ) ?_)
      rintro _ w39 ⟨rfl, hX37⟩
      refine ⟨_, rfl, ?_⟩
      have hH38 := hX37.of_all
      refine r_on 9 rfl (by kernel_rfl) 17 rfl (congrArg Value.bool h32) (o_buildSlice (ps := #[(0, (.agg #[(.bool true), (S x17.2)]))]) (cells := #[(.bool true), (S x17.2)]) Tryz.underlying202 ti62 (by decide) (parts1 rfl) (by kernel_rfl) hH38 fun b40 w41 hH42 => ?_)
      refine r_on 10 rfl (by kernel_rfl) 17 rfl (congrArg Value.bool h32) (o_callf (vs := #[(.slice (some ⟨b40, 0, none⟩) 1 1)]) ca138 rfl (args1 rfl) (value_c (l := [(true, x17.2)]) hH42.all ((sl_litF (f := vlC) (l := [(true, x17.2)]) vlC_len rfl rfl (by simp)).mono (seg_sub 0 rfl))) ?_)
      rintro _ w45 ⟨rfl, hX43⟩
      refine ⟨_, rfl, ?_⟩
      have hH44 := hX43.of_all
      refine r_on 11 rfl (by kernel_rfl) 17 rfl (congrArg Value.bool h32) (o_not rfl ?_)
      refine r_op 12 rfl (by kernel_rfl) (o_pick_f (u := (.bool (!([(true, x17.2)].all valR)))) ((rfl : _ = _).trans (congrArg Value.bool h32)) rfl ?_)
      refine r_op 13 rfl (by kernel_rfl) (o_move (v := (.bool (!([(true, x17.2)].all valR)))) rfl ?_)
      rcases Bool.eq_false_or_eq_true (!([(true, x17.2)].all valR)) with h46 | h46
      · -- !([(true, x17.2)].all valR)
        refine r_off (b' := true) 14 rfl (by kernel_rfl) 25 rfl (congrArg Value.bool h46) rfl ?_
        refine r_off (b' := true) 15 rfl (by kernel_rfl) 25 rfl (congrArg Value.bool h46) rfl ?_
        refine r_off (b' := true) 16 rfl (by kernel_rfl) 25 rfl (congrArg Value.bool h46) rfl ?_
        refine Rest.phaseA (fun w_ => Has E w_ []) 17 25 8 rfl (by decide) (by kernel_rfl) ?_
        refine a_offu 17 rfl (by kernel_rfl) 28 rfl rfl ?_
        refine a_offu 18 rfl (by kernel_rfl) 28 rfl rfl ?_
        refine a_offu 19 rfl (by kernel_rfl) 28 rfl rfl ?_
        refine a_offu 20 rfl (by kernel_rfl) 28 rfl rfl ?_
        refine a_offu 21 rfl (by kernel_rfl) 28 rfl rfl ?_
        refine a_offu 22 rfl (by kernel_rfl) 28 rfl rfl ?_
        refine a_offu 23 rfl (by kernel_rfl) 28 rfl rfl ?_
        refine a_offu 24 rfl (by kernel_rfl) 28 rfl rfl ?_
        have hH47 : Has E w45 [] := hH44.first 0 rfl
        refine a_done (by kernel_rfl) hH47 ?_
        refine r_offu 25 rfl (by kernel_rfl) 28 rfl rfl ?_
        refine r_off (b' := true) 26 rfl (by kernel_rfl) 25 rfl (congrArg Value.bool h46) rfl ?_
        refine r_op 27 rfl (by kernel_rfl) (o_pick_t (u := (.bool true)) ((rfl : _ = _).trans (congrArg Value.bool h46)) rfl ?_)
        refine Rest.done (by kernel_rfl) ?_
        refine t_norm (hK24 _ _ ?_)
        refine c_true rfl rfl ?_
        refine wp_seq_k fun K48 hK48 => ?_
        refine c_region ?_
        refine s_op (o_assign (v := (.bool false)) rfl ?_)
        refine s_nil ?_
        refine t_norm (hK48 _ _ ?_)
        refine wp_ret ?_
        refine b_ret (t_ret (t_ret (b_ret (t_ret (c_ret1 Tryz.results113  (v := (.bool false)) rfl ?_)))))
        have q49 : (cellsR l) = false := by exact cells_no1 hx18 (by (have h1_ := h46; simp only [List.all_cons, List.all_nil, Bool.and_true] at h1_; simp only [celOk]; rw [show valR (true, x17.2) = false by simpa using h1_]; simp))
        have hH50 : Has E w45 [R] := (hH44.front 3 rfl).first 1 rfl
        exact ⟨by rw [q49], hH50⟩
      · -- not: !([(true, x17.2)].all valR)
        refine r_on 14 rfl (by kernel_rfl) 25 rfl (congrArg Value.bool h46) (o_move (v := (.int .i64 (k : Int))) rfl ?_)
        refine r_on 15 rfl (by kernel_rfl) 25 rfl (congrArg Value.bool h46) (o_gtr (a := (k : Int)) (b := 0) rfl rfl ?_)
        refine r_on 16 rfl (by kernel_rfl) 25 rfl (congrArg Value.bool h46) (o_move (v := (.bool (decide (0 < (k : Int))))) rfl ?_)
        refine Rest.phaseA (fun w_ => Has E w_ [[Hp.one b19 (.cells #[(S x17.1), (S x17.2)] 70 (0, 0))], R]) 17 25 8 rfl (by decide) (by kernel_rfl) ?_
        by_cases h51 : 0 < (k : Int)
        · -- 0 < (k : Int)
          refine a_on 17 rfl (by kernel_rfl) 28 rfl (congrArg Value.bool (decide_eq_true h51)) (fun w_ h_ => o_fieldAddr (k := 0) (fun _ => by kernel_rfl) rfl ⟨rfl, rfl⟩) ?_
          refine a_on 18 rfl (by kernel_rfl) 28 rfl (congrArg Value.bool (decide_eq_true h51)) (fun w_ h_ => o_load1 (v := (S x17.1)) Tryz.underlying9 rfl rfl h_ (seg_sub 0 rfl) (CellsAt.one rfl) ⟨rfl, rfl⟩) ?_
          refine a_on 19 rfl (by kernel_rfl) 28 rfl (congrArg Value.bool (decide_eq_true h51)) (fun w_ h_ => o_move (v := v_l) e4_0 ⟨rfl, rfl⟩) ?_
          refine a_on 20 rfl (by kernel_rfl) 28 rfl (congrArg Value.bool (decide_eq_true h51)) (fun w_ h_ => o_move (v := (.int .i64 (k : Int))) rfl ⟨rfl, rfl⟩) ?_
          refine a_on 21 rfl (by kernel_rfl) 28 rfl (congrArg Value.bool (decide_eq_true h51)) (fun w_ h_ => o_sub (a := (k : Int)) (b := 1) rfl rfl (w64 (by omega) (by omega)) ⟨rfl, rfl⟩) ?_
          obtain ⟨x55, hx56⟩ : ∃ x_, l[((k : Int) - 1).toNat]? = some x_ := get_some (by omega)
          obtain ⟨b52, o53, hc54, ho57⟩ := ix_exF ceC_len Tryz.underlying34 ti70 h_l (by omega) hx56
          refine a_on 22 rfl (by kernel_rfl) 28 rfl (congrArg Value.bool (decide_eq_true h51)) (fun w_ h_ => ho57 rfl rfl ⟨rfl, rfl⟩) ?_
          refine a_on 23 rfl (by kernel_rfl) 28 rfl (congrArg Value.bool (decide_eq_true h51)) (fun w_ h_ => o_fieldAddr (k := o53) (fun _ => by kernel_rfl) rfl ⟨rfl, rfl⟩) ?_
          refine a_on 24 rfl (by kernel_rfl) 28 rfl (congrArg Value.bool (decide_eq_true h51)) (fun w_ h_ => o_load1 (v := (S x55.1)) Tryz.underlying9 rfl rfl h_ (seg_sub 1 rfl) (CellsAt.field (k := 0) (ds := [(S x55.1)]) hc54 rfl) ⟨rfl, rfl⟩) ?_
          have hH58 : Has E w45 [[Hp.one b19 (.cells #[(S x17.1), (S x17.2)] 70 (0, 0))], R] := ((hH44.front 3 rfl).front 3 rfl).first 2 rfl
          refine a_done (by kernel_rfl) hH58 ?_
          refine r_on 25 rfl (by kernel_rfl) 28 rfl (congrArg Value.bool (decide_eq_true h51)) (o_sleP (a := x17.1) (b := x55.1) rfl rfl ?_)
          refine r_on 26 rfl (by kernel_rfl) 25 rfl (congrArg Value.bool h46) (o_pick_t (u := (.bool (decide (¬ (x55.1 < x17.1))))) ((rfl : _ = _).trans (congrArg Value.bool (decide_eq_true h51))) rfl ?_)
          refine r_op 27 rfl (by kernel_rfl) (o_pick_f (u := (.bool (decide (¬ (x55.1 < x17.1))))) ((rfl : _ = _).trans (congrArg Value.bool h46)) rfl ?_)
          refine Rest.done (by kernel_rfl) ?_
          refine t_norm (hK24 _ _ ?_)
          refine c_cond rfl (fun h59 => ?_) (fun h59 => ?_)
          · -- ¬ (x55.1 < x17.1)
            refine wp_seq_k fun K60 hK60 => ?_
            refine c_region ?_
            refine s_op (o_assign (v := (.bool false)) rfl ?_)
            refine s_nil ?_
            refine t_norm (hK60 _ _ ?_)
            refine wp_ret ?_
            refine b_ret (t_ret (t_ret (b_ret (t_ret (c_ret1 Tryz.results113  (v := (.bool false)) rfl ?_)))))
            have q61 : (cellsR l) = false := by exact cells_no2 (k := k) (by omega) hx18 (by rw [show k - 1 = ((k : Int) - 1).toNat by omega]; exact hx56) h59
            have hH62 : Has E w45 [R] := (hH44.front 3 rfl).first 1 rfl
            exact ⟨by rw [q61], hH62⟩
          · -- not: ¬ (x55.1 < x17.1)
            refine wp_skip ?_
            refine b_norm ?_
            refine t_norm (hK12 _ _ ?_)
            refine c_region ?_
            refine s_op (o_add (a := (k : Int)) (b := 1) e4_7 rfl (w64 (by omega) (by omega)) ?_)
            refine s_op (o_move (v := (.int .i64 ((k : Int) + 1))) rfl ?_)
            refine s_nil ?_
            have hH63 : Has E w45 [R] := (hH44.front 3 rfl).first 1 rfl
            refine t_norm ⟨l.length - (k + 1), _, rfl, ?_, ?_⟩
            · omega
            · exact ⟨(k + 1), rfl, hH63, (by omega), (all_next (show l[k]? = some _ from hx18) ha (by (have h1_ := h32; have h2_ := h46; simp only [List.all_cons, List.all_nil, Bool.and_true] at h1_ h2_; simp only [celOk, Bool.and_eq_true]; exact ⟨by simpa using h1_, by simpa using h2_⟩))), (cells_next (show l[k]? = some _ from hx18) hr (fun p h0 hp => by (have e_ := hp.symm.trans (show l[k - 1]? = some _ from by rw [show k - 1 = ((k : Int) - 1).toNat by omega]; exact hx56); cases e_; exact Classical.not_not.1 h59))), e4_0, e4_5, e4_6, rfl⟩
        · -- not: 0 < (k : Int)
          refine a_off (b' := false) 17 rfl (by kernel_rfl) 28 rfl (congrArg Value.bool (decide_eq_false h51)) rfl ?_
          refine a_off (b' := false) 18 rfl (by kernel_rfl) 28 rfl (congrArg Value.bool (decide_eq_false h51)) rfl ?_
          refine a_off (b' := false) 19 rfl (by kernel_rfl) 28 rfl (congrArg Value.bool (decide_eq_false h51)) rfl ?_
          refine a_off (b' := false) 20 rfl (by kernel_rfl) 28 rfl (congrArg Value.bool (decide_eq_false h51)) rfl ?_
          refine a_off (b' := false) 21 rfl (by kernel_rfl) 28 rfl (congrArg Value.bool (decide_eq_false h51)) rfl ?_
          refine a_off (b' := false) 22 rfl (by kernel_rfl) 28 rfl (congrArg Value.bool (decide_eq_false h51)) rfl ?_
          refine a_off (b' := false) 23 rfl (by kernel_rfl) 28 rfl (congrArg Value.bool (decide_eq_false h51)) rfl ?_
          refine a_off (b' := false) 24 rfl (by kernel_rfl) 28 rfl (congrArg Value.bool (decide_eq_false h51)) rfl ?_
          have hH64 : Has E w45 [[Hp.one b19 (.cells #[(S x17.1), (S x17.2)] 70 (0, 0))], R] := ((hH44.front 3 rfl).front 3 rfl).first 2 rfl
          refine a_done (by kernel_rfl) hH64 ?_
          refine r_off (b' := false) 25 rfl (by kernel_rfl) 28 rfl (congrArg Value.bool (decide_eq_false h51)) rfl ?_
          refine r_on 26 rfl (by kernel_rfl) 25 rfl (congrArg Value.bool h46) (o_pick_f (u := (.bool false)) ((rfl : _ = _).trans (congrArg Value.bool (decide_eq_false h51))) rfl ?_)
          refine r_op 27 rfl (by kernel_rfl) (o_pick_f (u := (.bool false)) ((rfl : _ = _).trans (congrArg Value.bool h46)) rfl ?_)
          refine Rest.done (by kernel_rfl) ?_
          refine t_norm (hK24 _ _ ?_)
          refine c_false rfl rfl ?_
          refine wp_skip ?_
          refine b_norm ?_
          refine t_norm (hK12 _ _ ?_)
          refine c_region ?_
          refine s_op (o_add (a := (k : Int)) (b := 1) e4_7 rfl (w64 (by omega) (by omega)) ?_)
          refine s_op (o_move (v := (.int .i64 ((k : Int) + 1))) rfl ?_)
          refine s_nil ?_
          have hH65 : Has E w45 [R] := (hH44.front 3 rfl).first 1 rfl
          refine t_norm ⟨l.length - (k + 1), _, rfl, ?_, ?_⟩
          · omega
          · exact ⟨(k + 1), rfl, hH65, (by omega), (all_next (show l[k]? = some _ from hx18) ha (by (have h1_ := h32; have h2_ := h46; simp only [List.all_cons, List.all_nil, Bool.and_true] at h1_ h2_; simp only [celOk, Bool.and_eq_true]; exact ⟨by simpa using h1_, by simpa using h2_⟩))), (cells_next (show l[k]? = some _ from hx18) hr (fun p h0 _ => absurd h0 (by omega))), e4_0, e4_5, e4_6, rfl⟩
  · -- not: (k : Int) < ((l.length : Nat) : Int)
    refine wp_exit ?_
    refine t_exit (t_exit (x_in (?_)))
    refine t_norm (hK2 _ _ ?_)
    refine wp_seq_k fun K66 hK66 => ?_
    refine c_region ?_
    refine s_op (o_move (v := v_l) e4_0 ?_)
    refine s_op (o_lenS Tryz.underlying34 rfl h_l ?_)
    refine s_op (o_leq (a := ((l.length : Nat) : Int)) (b := 8) rfl rfl ?_)
    refine s_op (o_assign (v := (.bool (decide (((l.length : Nat) : Int) ≤ 8)))) rfl ?_)
    refine s_nil ?_
    refine t_norm (hK66 _ _ ?_)
    refine wp_ret ?_
    refine c_ret1 Tryz.results113  (v := (.bool (decide (((l.length : Nat) : Int) ≤ 8)))) rfl ?_
    have q67 : (cellsR l) = decide (((l.length : Nat) : Int) ≤ 8) := by (have e_ : k = l.length := by omega); rw [e_, List.take_length] at ha hr; rw [cells_end ha hr]; exact decide_eq_decide.2 (by omega)
    exact ⟨by rw [q67], hH7⟩
set_option maxHeartbeats 4000000 in
theorem pright_c {E w : World} {R : List Hp} {no : Int} {gsn : Int} {v_l : Value} {l : List Cel}  (hH : Has E w [R]) (h_l : Sl R 2 v_l l.length (l.flatMap ceC)) :
    Calls Tryz.prog 78 #[(.agg #[(.int .i64 no), (.int .i64 gsn), v_l])] w fun e w' => e = .returned (.bool (pageR no gsn l)) ∧ Has E w' [R] := by
  refine c_enter (args := [(.agg #[(.int .i64 no), (.int .i64 gsn), v_l])]) Tryz.func78 rfl Tryz.ntmps78 (by simp) ?_
  refine wp_seq_k fun K1 hK1 => ?_
  refine c_region ?_
  refine s_op (o_box (cs := #[(.int .i64 no), (.int .i64 gsn), v_l]) rfl rfl hH fun b2 w3 hH4 => ?_)
  refine s_op (o_assign (v := (.bool false)) rfl ?_)
  refine s_nil ?_
  refine t_norm (hK1 _ _ ?_)
  refine wp_seq_k fun K5 hK5 => ?_
  refine c_region ?_
  refine s_op (o_fieldAddr (k := 0) (fun _ => by kernel_rfl) rfl ?_)
  refine s_op (o_load1 (v := (.int .i64 no)) Tryz.underlying3 rfl rfl hH4 (seg_sub 0 rfl) (CellsAt.one rfl) ?_)
  refine s_op (o_geq (a := no) (b := 0) rfl rfl ?_)
  refine s_op (o_move (v := (.bool (decide (0 ≤ no)))) rfl ?_)
  by_cases h6 : 0 ≤ no
  · -- 0 ≤ no
    refine s_on 6 rfl (congrArg Value.bool (decide_eq_true h6)) (o_fieldAddr (k := 0) (fun _ => by kernel_rfl) rfl ?_)
    refine s_on 6 rfl (congrArg Value.bool (decide_eq_true h6)) (o_load1 (v := (.int .i64 no)) Tryz.underlying3 rfl rfl hH4 (seg_sub 0 rfl) (CellsAt.one rfl) ?_)
    refine s_on 6 rfl (congrArg Value.bool (decide_eq_true h6)) (o_lss (a := no) (b := 64) rfl rfl ?_)
    refine s_op (o_pick_t (u := (.bool (decide (no < 64)))) ((rfl : _ = _).trans (congrArg Value.bool (decide_eq_true h6))) rfl ?_)
    refine s_op (o_move (v := (.bool (decide (no < 64)))) rfl ?_)
    by_cases h7 : no < 64
    · -- no < 64
      refine s_on 11 rfl (congrArg Value.bool (decide_eq_true h7)) (o_fieldAddr (k := 1) (fun _ => by kernel_rfl) rfl ?_)
      refine s_on 11 rfl (congrArg Value.bool (decide_eq_true h7)) (o_load1 (v := (.int .i64 gsn)) Tryz.underlying3 rfl rfl hH4 (seg_sub 0 rfl) (CellsAt.one rfl) ?_)
      refine s_on 11 rfl (congrArg Value.bool (decide_eq_true h7)) (o_geq (a := gsn) (b := 0) rfl rfl ?_)
      refine s_op (o_pick_t (u := (.bool (decide (0 ≤ gsn)))) ((rfl : _ = _).trans (congrArg Value.bool (decide_eq_true h7))) rfl ?_)
      refine s_op (o_move (v := (.bool (decide (0 ≤ gsn)))) rfl ?_)
      by_cases h8 : 0 ≤ gsn
      · -- 0 ≤ gsn
        refine s_on 16 rfl (congrArg Value.bool (decide_eq_true h8)) (o_fieldAddr (k := 1) (fun _ => by kernel_rfl) rfl ?_)
        refine s_on 16 rfl (congrArg Value.bool (decide_eq_true h8)) (o_load1 (v := (.int .i64 gsn)) Tryz.underlying3 rfl rfl hH4 (seg_sub 0 rfl) (CellsAt.one rfl) ?_)
        refine s_on 16 rfl (congrArg Value.bool (decide_eq_true h8)) (o_leq (a := gsn) (b := 4611686018427387903) rfl rfl ?_)
        refine s_op (o_pick_t (u := (.bool (decide (gsn ≤ 4611686018427387903)))) ((rfl : _ = _).trans (congrArg Value.bool (decide_eq_true h8))) rfl ?_)
        refine s_op (o_move (v := (.bool (decide (gsn ≤ 4611686018427387903)))) rfl ?_)
        by_cases h9 : gsn ≤ 4611686018427387903
        · -- gsn ≤ 4611686018427387903
          refine s_on 21 rfl (congrArg Value.bool (decide_eq_true h9)) (o_fieldAddr (k := 2) (fun _ => by kernel_rfl) rfl ?_)
          refine s_on 21 rfl (congrArg Value.bool (decide_eq_true h9)) (o_load1 (v := v_l) Tryz.underlying34 rfl rfl hH4 (seg_sub 0 rfl) (CellsAt.one rfl) ?_)
          refine s_on 21 rfl (congrArg Value.bool (decide_eq_true h9)) (o_callf (vs := #[v_l]) ca113 rfl (args1 rfl) (cells_c (l := l) hH4.all (h_l.mono (seg_sub 1 rfl))) ?_)
          rintro _ w12 ⟨rfl, hX10⟩
          refine ⟨_, rfl, ?_⟩
          have hH11 := hX10.of_all
          refine s_op (o_pick_t (u := (.bool (cellsR l))) ((rfl : _ = _).trans (congrArg Value.bool (decide_eq_true h9))) rfl ?_)
          refine s_op (o_assign (v := (.bool (cellsR l))) rfl ?_)
          refine s_nil ?_
          refine t_norm (hK5 _ _ ?_)
          refine wp_ret ?_
          refine c_ret1 Tryz.results78  (v := (.bool (cellsR l))) rfl ?_
          have q13 : (pageR no gsn l) = (cellsR l) := by unfold pageR; rw [Bool.eq_iff_iff]; simp [h6, h7, h8, h9]; try omega
          have hH14 : Has E w12 [R] := (hH11.front 1 rfl).first 1 rfl
          exact ⟨by rw [q13], hH14⟩
        · -- not: gsn ≤ 4611686018427387903
          refine s_off (b' := false) 21 rfl (congrArg Value.bool (decide_eq_false h9)) rfl ?_
          refine s_off (b' := false) 21 rfl (congrArg Value.bool (decide_eq_false h9)) rfl ?_
          refine s_off (b' := false) 21 rfl (congrArg Value.bool (decide_eq_false h9)) rfl ?_
          refine s_op (o_pick_f (u := (.bool false)) ((rfl : _ = _).trans (congrArg Value.bool (decide_eq_false h9))) rfl ?_)
          refine s_op (o_assign (v := (.bool false)) rfl ?_)
          refine s_nil ?_
          refine t_norm (hK5 _ _ ?_)
          refine wp_ret ?_
          refine c_ret1 Tryz.results78  (v := (.bool false)) rfl ?_
          have q15 : (pageR no gsn l) = false := by unfold pageR; rw [Bool.eq_iff_iff]; simp [h6, h7, h8, h9]; try omega
          have hH16 : Has E w3 [R] := (hH4.front 1 rfl).first 1 rfl
          exact ⟨by rw [q15], hH16⟩
      · -- not: 0 ≤ gsn
        refine s_off (b' := false) 16 rfl (congrArg Value.bool (decide_eq_false h8)) rfl ?_
        refine s_off (b' := false) 16 rfl (congrArg Value.bool (decide_eq_false h8)) rfl ?_
        refine s_off (b' := false) 16 rfl (congrArg Value.bool (decide_eq_false h8)) rfl ?_
        refine s_op (o_pick_f (u := (.bool false)) ((rfl : _ = _).trans (congrArg Value.bool (decide_eq_false h8))) rfl ?_)
        refine s_op (o_move (v := (.bool false)) rfl ?_)
        refine s_off (b' := false) 21 rfl rfl rfl ?_
        refine s_off (b' := false) 21 rfl rfl rfl ?_
        refine s_off (b' := false) 21 rfl rfl rfl ?_
        refine s_op (o_pick_f (u := (.bool false)) rfl rfl ?_)
        refine s_op (o_assign (v := (.bool false)) rfl ?_)
        refine s_nil ?_
        refine t_norm (hK5 _ _ ?_)
        refine wp_ret ?_
        refine c_ret1 Tryz.results78  (v := (.bool false)) rfl ?_
        have q17 : (pageR no gsn l) = false := by unfold pageR; rw [Bool.eq_iff_iff]; simp [h6, h7, h8]; try omega
        have hH18 : Has E w3 [R] := (hH4.front 1 rfl).first 1 rfl
        exact ⟨by rw [q17], hH18⟩
    · -- not: no < 64
      refine s_off (b' := false) 11 rfl (congrArg Value.bool (decide_eq_false h7)) rfl ?_
      refine s_off (b' := false) 11 rfl (congrArg Value.bool (decide_eq_false h7)) rfl ?_
      refine s_off (b' := false) 11 rfl (congrArg Value.bool (decide_eq_false h7)) rfl ?_
      refine s_op (o_pick_f (u := (.bool false)) ((rfl : _ = _).trans (congrArg Value.bool (decide_eq_false h7))) rfl ?_)
      refine s_op (o_move (v := (.bool false)) rfl ?_)
      refine s_off (b' := false) 16 rfl rfl rfl ?_
      refine s_off (b' := false) 16 rfl rfl rfl ?_
      refine s_off (b' := false) 16 rfl rfl rfl ?_
      refine s_op (o_pick_f (u := (.bool false)) rfl rfl ?_)
      refine s_op (o_move (v := (.bool false)) rfl ?_)
      refine s_off (b' := false) 21 rfl rfl rfl ?_
      refine s_off (b' := false) 21 rfl rfl rfl ?_
      refine s_off (b' := false) 21 rfl rfl rfl ?_
      refine s_op (o_pick_f (u := (.bool false)) rfl rfl ?_)
      refine s_op (o_assign (v := (.bool false)) rfl ?_)
      refine s_nil ?_
      refine t_norm (hK5 _ _ ?_)
      refine wp_ret ?_
      refine c_ret1 Tryz.results78  (v := (.bool false)) rfl ?_
      have q19 : (pageR no gsn l) = false := by unfold pageR; rw [Bool.eq_iff_iff]; simp [h6, h7]; try omega
      have hH20 : Has E w3 [R] := (hH4.front 1 rfl).first 1 rfl
      exact ⟨by rw [q19], hH20⟩
  · -- not: 0 ≤ no
    refine s_off (b' := false) 6 rfl (congrArg Value.bool (decide_eq_false h6)) rfl ?_
    refine s_off (b' := false) 6 rfl (congrArg Value.bool (decide_eq_false h6)) rfl ?_
    refine s_off (b' := false) 6 rfl (congrArg Value.bool (decide_eq_false h6)) rfl ?_
    refine s_op (o_pick_f (u := (.bool false)) ((rfl : _ = _).trans (congrArg Value.bool (decide_eq_false h6))) rfl ?_)
    refine s_op (o_move (v := (.bool false)) rfl ?_)
    refine s_off (b' := false) 11 rfl rfl rfl ?_
    refine s_off (b' := false) 11 rfl rfl rfl ?_
    refine s_off (b' := false) 11 rfl rfl rfl ?_
    refine s_op (o_pick_f (u := (.bool false)) rfl rfl ?_)
    refine s_op (o_move (v := (.bool false)) rfl ?_)
    refine s_off (b' := false) 16 rfl rfl rfl ?_
    refine s_off (b' := false) 16 rfl rfl rfl ?_
    refine s_off (b' := false) 16 rfl rfl rfl ?_
    refine s_op (o_pick_f (u := (.bool false)) rfl rfl ?_)
    refine s_op (o_move (v := (.bool false)) rfl ?_)
    refine s_off (b' := false) 21 rfl rfl rfl ?_
    refine s_off (b' := false) 21 rfl rfl rfl ?_
    refine s_off (b' := false) 21 rfl rfl rfl ?_
    refine s_op (o_pick_f (u := (.bool false)) rfl rfl ?_)
    refine s_op (o_assign (v := (.bool false)) rfl ?_)
    refine s_nil ?_
    refine t_norm (hK5 _ _ ?_)
    refine wp_ret ?_
    refine c_ret1 Tryz.results78  (v := (.bool false)) rfl ?_
    have q21 : (pageR no gsn l) = false := by unfold pageR; rw [Bool.eq_iff_iff]; simp [h6]; try omega
    have hH22 : Has E w3 [R] := (hH4.front 1 rfl).first 1 rfl
    exact ⟨by rw [q21], hH22⟩
end Go.Q
namespace Go.Q
open Go.RowKit
section
variable {P : Program} {ρ : Operand → Value} {E w : World} {ss : List (List Hp)} {K : Value → World → Prop} {dst : Option Tmp} {T : TypeId} {pos : String} {after : Array Edge} {g : Option (Nat × Bool)}
theorem strCells_S (l : List UInt8) : Lib.strCells ⟨l.toArray⟩ = l.map bV := rfl
theorem o_appstr {x y : Operand} {t u e : TypeId} {v : Value} {n : Nat} {cs : List Value} {hs : List Hp} {l : List UInt8} (ht : P.underlying t = some (.slice e)) (hu : P.underlying u = some .string) (hi : TI P e (.int .u8 0) 1 1)
    (hx : ρ x = v) (ho : Own e 1 v n cs hs) (hy : ρ y = S l) (H : Has E w (hs :: ss)) (hb : n + l.length ≤ 140737488355328)
    (hK : ∀ v' hs' w', Own e 1 v' (n + l.length) (cs ++ l.map bV) hs' → (v = .slice none 0 0 → l = [] → v' = .slice none 0 0) → Has E w' (hs' :: ss) → K v' w') :
    OK P ⟨dst, .call ⟨.builtin .append, #[x, y], #[t, u]⟩, T, pos, after, g⟩ ρ w K := by
  obtain ⟨i, hi, hiz, hisz, hiby⟩ := hi
  have hsz : (⟨l.toArray⟩ : ByteArray).size = l.length := by simp [ByteArray.size]
  have hrow := ho.row H
  obtain ⟨v', w', hr, ho', hg, hnil⟩ := Lib.run_append_own_string w 0 t u T e i ht hu hi hiz hisz hiby v n cs hrow ⟨l.toArray⟩ (by rw [hsz]; unfold maxLen; omega) (by rw [hsz]; omega) (Nat.zero_le _)
  have hloc : v'.ownBlock = v.ownBlock ∨ v'.ownBlock = some w.heap.size := by
    obtain ⟨hlc, ⟨rfl, rfl, rfl⟩ | ⟨b, cap, cur, rfl, rfl, hnc, hcm, hcs, htake⟩⟩ := ho
    · by_cases hm : l.length = 0
      · exact .inl (by rw [hnil.2 ⟨rfl, by rw [hsz]; exact hm⟩])
      · have hr2 := run_append_nil_string (P := P) w t u T e i (.int .u8 0) ht hu hi hiz ⟨l.toArray⟩ (by rw [hsz]; omega) (by rw [hsz]; omega) (by rw [hsz, hiby]; omega)
        rw [hr2] at hr
        injection hr with e1 e2
        exact .inr (by rw [← e1]; rfl)
    · have hg0 : w.heap[b]? = some (.cells cur e (0, 0)) := H.at (by simp) (Hp.one_at _ _)
      by_cases hroom : n + (⟨l.toArray⟩ : ByteArray).size ≤ cap
      · have hr2 := Lib.run_append_room_string (P := P) w t u T e i ht hu hi hisz b n cap cur hg0 ⟨l.toArray⟩ hroom (by omega)
        rw [hr2] at hr
        injection hr with e1 e2
        exact .inl (by rw [← e1]; rfl)
      · have holds : ∀ j x, cs[j]? = some x → w.cell? ((⟨b, 0, none⟩ : Addr).add j) = some x := hrow.cells (g := b) rfl
        have hr2 := Lib.run_append_grow_string (P := P) w t u T e i (.int .u8 0) ht hu hi hiz ⟨b, 0, none⟩ n cap cs (by rw [hisz]; simpa using hlc) holds ⟨l.toArray⟩ (by omega) (by rw [hsz]; omega) (by rw [hiby]; exact growslice_fits (by omega) (by rw [hsz]; omega))
        rw [hr2] at hr
        injection hr with e1 e2
        exact .inr (by rw [← e1]; rfl)
  rw [hsz, strCells_S] at ho'
  obtain ⟨hs', hown, hH⟩ := ho.turn H ho' hg hloc
  refine o_call_builtin (v := v') (w' := w') ?_ (hK v' hs' w' hown (fun h1 h2 => hnil.2 ⟨h1, by rw [h2]; rfl⟩) hH)
  have hyy : ρ y = .string ⟨l.toArray⟩ := hy
  simp only [hx, hyy, builtin, List.map_toArray, List.map_cons, List.map_nil, Sem.run_bind, hr, Result.andThen_ok, Sem.run_pure]
/-- unsafe.SliceData of no row, of a row -/
theorem o_uSDnil {x : Operand} {t : TypeId} {n c : Nat} (hx : ρ x = .slice none n c) (h : K (.pointer none) w) : OK P ⟨dst, .call ⟨.builtin .unsafeSliceData, #[x], #[t]⟩, T, pos, after, g⟩ ρ w K := by
  refine o_call_builtin (v := .pointer none) (w' := w) ?_ h
  simp [hx, builtin, Lib.run_unsafeSliceData_nil]
theorem o_uSD {x : Operand} {t : TypeId} {a : Addr} {n c : Nat} (hx : ρ x = .slice (some a) n c) (hc : c ≠ 0) (h : K (.pointer (some a)) w) : OK P ⟨dst, .call ⟨.builtin .unsafeSliceData, #[x], #[t]⟩, T, pos, after, g⟩ ρ w K := by
  refine o_call_builtin (v := .pointer (some a)) (w' := w) ?_ h
  simp [hx, builtin, Lib.run_unsafeSliceData_row w _ _ a n c hc]
theorem Has.freeze {E w : World} {hs : List Hp} {ss : List (List Hp)} {b : Nat} {o : Obj} (H : Has E w (hs :: ss)) (hh : hs = [Hp.one b o]) (n : Nat) : Has E (w.freeze ⟨b, 0, none⟩ n) ss := by
  subst hh
  have h0 : Has0 E w ([Hp.one b o] ++ ss.flatten) := by simpa [Has] using H
  have h1 : Has0 E (w.freeze ⟨b, 0, none⟩ n) ([] ++ ss.flatten) := by
    unfold World.freeze
    split
    · exact h0.weak (by simp)
    · refine Has0.write (an := [Hp.one b o]) (an' := []) h0 rfl rfl rfl (by simp) (fun k _ => .inl (by simp)) (by simp) fun k hk hn => ?_
      have hne : b ≠ k := fun e => by
        have := hn _ (List.mem_singleton.2 rfl)
        rw [← e, Hp.one_at] at this; cases this
      simp only [Array.getElem?_modify]
      rw [if_neg (fun e => hne e)]
  simpa [Has] using h1
/-- unsafe.String of a row's bytes -/
theorem o_uStrNil {x y : Operand} {t u : TypeId} {p : Option Addr} (hx : ρ x = .pointer p) (hy : ρ y = .int .i64 0) (h : K (S []) w) : OK P ⟨dst, .call ⟨.builtin .unsafeString, #[x, y], #[t, u]⟩, T, pos, after, g⟩ ρ w K := by
  refine o_call_builtin (v := S []) (w' := w) ?_ h
  simp only [hx, hy, builtin, List.map_toArray, List.map_cons, List.map_nil, Sem.run_bind, Lib.run_unsafeString_none, Result.andThen_ok, Sem.run_pure]; rfl
theorem o_uStr {x y : Operand} {t u e : TypeId} {b cap : Nat} {l : List UInt8} {hs : List Hp} (ht : P.underlying t = some (.pointer e)) (hc : P.cellsOf e = 1) (hx : ρ x = .pointer (some ⟨b, 0, none⟩)) (hy : ρ y = .int .i64 (l.length : Int))
    (ho : Own e 1 (.slice (some ⟨b, 0, none⟩) l.length cap) l.length (l.map bV) hs) (h0 : l ≠ []) (H : Has E w (hs :: ss)) (hK : ∀ w', Has E w' ss → K (S l) w') : OK P ⟨dst, .call ⟨.builtin .unsafeString, #[x, y], #[t, u]⟩, T, pos, after, g⟩ ρ w K := by
  have hrow := ho.row H
  have hcells := hrow.cells (g := b) rfl
  obtain ⟨hlc, ⟨h, _⟩ | ⟨b', cap', cur, h, hhs, hnc, hcm, hcs, _⟩⟩ := ho
  · cases h
  · cases h
    have hg : w.heap[b]? = some (.cells cur e (0, 0)) := H.at (h := Hp.one b (.cells cur e (0, 0))) (by rw [hhs]; simp) (Hp.one_at _ _)
    have hr := Lib.run_unsafeString_row (P := P) w t u T e ht hc b cur.size (by simp [World.shape?, hg]) l h0 (by omega) (by unfold maxLen at hcm; omega) (fun j x hj => hcells j _ (by rw [List.getElem?_map, hj]; rfl))
    refine o_call_builtin (v := S l) (w' := w.freeze ⟨b, 0, none⟩ l.length) ?_ (hK _ (H.freeze hhs _))
    simp only [hx, hy, builtin, List.map_toArray, List.map_cons, List.map_nil, Sem.run_bind, hr, Result.andThen_ok, Sem.run_pure]; rfl
/-- a pointer as unsafe.Pointer, and back -/
theorem shape_of {E w : World} {ss : List (List Hp)} {b : Nat} {cs : Array Value} {T' : TypeId} {f : Nat × Nat} (H : Has E w ss) (hL : [Hp.one b (.cells cs T' f)] ⊆ ss.flatten) : w.shape? b = some (T', cs.size) := by
  have hg : w.heap[b]? = some (.cells cs T' f) := H.at (hL (List.mem_singleton.2 rfl)) (Hp.one_at _ _)
  simp [World.shape?, hg]
theorem o_toUnsafe {x : Operand} {t u te T' : TypeId} {b : Nat} {cs : Array Value} {f : Nat × Nat} {z : Value} {sz by_ : Nat} (ht : P.underlying t = some (.pointer te)) (hu : P.underlying u = some .unsafePointer) (hj : TI P te z sz by_) (hjs : sz ≠ 0) (hx : ρ x = .pointer (some ⟨b, 0, none⟩))
    (H : Has E w ss) (hL : [Hp.one b (.cells cs T' f)] ⊆ ss.flatten) (hc : 0 < cs.size) (h : K (.pointer (some ⟨b, 0, none⟩)) w) : OK P ⟨dst, .convert t u x, T, pos, after, g⟩ ρ w K := by
  obtain ⟨j, hj, _, hsz, _⟩ := hj
  exact OK.val (run_v (by rw [hx]; exact Lib.run_to_unsafe w ⟨b, 0, none⟩ ht hu hj (by rw [hsz]; exact hjs) (shape_of H hL) hc)) h
theorem o_fromUnsafe {x : Operand} {t u te T' : TypeId} {b : Nat} {cs : Array Value} {f : Nat × Nat} {z : Value} {sz by_ : Nat} (ht : P.underlying t = some .unsafePointer) (hu : P.underlying u = some (.pointer te)) (hj : TI P te z sz by_) (hx : ρ x = .pointer (some ⟨b, 0, none⟩))
    (H : Has E w ss) (hL : [Hp.one b (.cells cs T' f)] ⊆ ss.flatten) (hl : liesAt P P.depth T' (cs.size / P.cellsOf T') 0 te 1 = true) (h : K (.pointer (some ⟨b, 0, none⟩)) w) : OK P ⟨dst, .convert t u x, T, pos, after, g⟩ ρ w K := by
  obtain ⟨j, hj, _⟩ := hj
  exact OK.val (run_v (by rw [hx]; exact Lib.run_from_unsafe w ⟨b, 0, none⟩ ht hu hj (shape_of H hL) hl)) h
theorem o_extern {c x : Operand} {f : FuncId} {ts : Array TypeId} {v v' : Value} (hv : ρ c = .func (.func f) #[] #[]) (hx : ρ x = v) (hr : (callFunc f #[v]).run P w = .ok (.value v') w) (h : K v' w) :
    OK P ⟨dst, .call ⟨.value c, #[x], ts⟩, T, pos, after, g⟩ ρ w K := by
  refine OK.val ?_ h
  simp [execOp, resolve, hv, Deferred.ofValue, invoke, hx, hr]
theorem o_pneqSame {x y : Operand} {t te t2 : TypeId} {z : Value} {sz by_ : Nat} {a : Addr} (ht : P.underlying t = some (.pointer te)) (hj : TI P te z sz by_) (hx : ρ x = .pointer (some a)) (hy : ρ y = .pointer (some a)) (h : K (.bool false) w) :
    OK P ⟨dst, .binOp .neq t x y t2, T, pos, after, g⟩ ρ w K := by
  obtain ⟨j, hj, _⟩ := hj
  exact OK.val (run_v (by rw [hx, hy]; exact Lib.run_neq_ptr_same w a ht hj)) h
end
end Go.Q
namespace Go.Q
open Go.Proofs
set_option linter.unusedVariables false
set_option maxRecDepth 100000
attribute [local irreducible] wpList OK Code.wp
set_option maxHeartbeats 4000000 in
theorem cc_f {E w : World} {R : List Hp} {bb : Nat} {v : Value} (hH : Has E w [[Hp.one bb (.cells #[(.pointer none), v] 145 (0, 0))], R]) :
    Calls Tryz.prog 127 #[(.pointer (some ⟨bb, 0, none⟩))] w fun e w' => e = .returned (.tuple #[]) ∧ Has E w' [[Hp.one bb (.cells #[(.pointer (some ⟨bb, 0, none⟩)), v] 145 (0, 0))], R] := by
  refine c_enter (args := [(.pointer (some ⟨bb, 0, none⟩))]) Tryz.func127 rfl Tryz.ntmps127 (by simp) ?_
  refine wp_seq_k fun K1 hK1 => ?_
  refine c_region ?_
  refine s_op (o_move (v := (.pointer (some ⟨bb, 0, none⟩))) rfl ?_)
  refine s_op (o_nilCheck rfl ?_)
  refine s_op (o_fieldAddr (k := 0) (fun _ => by kernel_rfl) rfl ?_)
  refine s_op (o_load1 (v := (.pointer none)) Tryz.underlying143 rfl rfl hH (seg_sub 0 rfl) (CellsAt.one rfl) ?_)
  refine s_op (o_pnil (p := none) Tryz.underlying143 rfl rfl ?_)
  refine s_nil ?_
  refine t_norm (hK1 _ _ ?_)
  refine c_true rfl rfl ?_
  refine c_region ?_
  refine s_op (o_move (v := (.pointer (some ⟨bb, 0, none⟩))) rfl ?_)
  refine s_op (o_move (v := (.pointer (some ⟨bb, 0, none⟩))) rfl ?_)
  refine s_op (o_toUnsafe Tryz.underlying143 Tryz.underlying195 ti145 (by decide) rfl hH (seg_sub 0 rfl) (Nat.zero_lt_succ 1) ?_)
  refine s_op (o_extern (v' := (.pointer (some ⟨bb, 0, none⟩))) rfl rfl (by rw [run_callFunc_extern Tryz.func155 (by kernel_rfl) (by kernel_rfl) (by kernel_rfl) (e := Extern.AbiNoEscape.same) (by kernel_rfl), Lib.run_noEscape]; rfl) ?_)
  refine s_op (o_fromUnsafe Tryz.underlying195 Tryz.underlying143 ti145 rfl hH (seg_sub 0 rfl) (by kernel_rfl) ?_)
  refine s_op (o_nilCheck rfl ?_)
  refine s_op (o_fieldAddr (k := 0) (fun _ => by kernel_rfl) rfl ?_)
  refine s_eff (o_store1 (c' := #[(.pointer (some ⟨bb, 0, none⟩)), v]) ti143 rfl rfl rfl (by simp) rfl (hH.front 0 rfl) fun w2 hH3 => ?_)
  refine s_nil ?_
  refine c_end0 Tryz.results127  ?_
  exact ⟨rfl, hH3⟩
set_option maxHeartbeats 4000000 in
theorem cc_u {E w : World} {R : List Hp} {bb : Nat} {v : Value} (hH : Has E w [[Hp.one bb (.cells #[(.pointer (some ⟨bb, 0, none⟩)), v] 145 (0, 0))], R]) :
    Calls Tryz.prog 127 #[(.pointer (some ⟨bb, 0, none⟩))] w fun e w' => e = .returned (.tuple #[]) ∧ Has E w' [[Hp.one bb (.cells #[(.pointer (some ⟨bb, 0, none⟩)), v] 145 (0, 0))], R] := by
  refine c_enter (args := [(.pointer (some ⟨bb, 0, none⟩))]) Tryz.func127 rfl Tryz.ntmps127 (by simp) ?_
  refine wp_seq_k fun K1 hK1 => ?_
  refine c_region ?_
  refine s_op (o_move (v := (.pointer (some ⟨bb, 0, none⟩))) rfl ?_)
  refine s_op (o_nilCheck rfl ?_)
  refine s_op (o_fieldAddr (k := 0) (fun _ => by kernel_rfl) rfl ?_)
  refine s_op (o_load1 (v := (.pointer (some ⟨bb, 0, none⟩))) Tryz.underlying143 rfl rfl hH (seg_sub 0 rfl) (CellsAt.one rfl) ?_)
  refine s_op (o_pnil (p := some _) Tryz.underlying143 rfl rfl ?_)
  refine s_nil ?_
  refine t_norm (hK1 _ _ ?_)
  refine c_false rfl rfl ?_
  refine wp_seq_k fun K2 hK2 => ?_
  refine c_region ?_
  refine s_op (o_move (v := (.pointer (some ⟨bb, 0, none⟩))) rfl ?_)
  refine s_op (o_nilCheck rfl ?_)
  refine s_op (o_fieldAddr (k := 0) (fun _ => by kernel_rfl) rfl ?_)
  refine s_op (o_load1 (v := (.pointer (some ⟨bb, 0, none⟩))) Tryz.underlying143 rfl rfl hH (seg_sub 0 rfl) (CellsAt.one rfl) ?_)
  refine s_op (o_move (v := (.pointer (some ⟨bb, 0, none⟩))) rfl ?_)
  refine s_op (o_pneqSame Tryz.underlying143 ti145 rfl rfl ?_)
  refine s_nil ?_
  refine t_norm (hK2 _ _ ?_)
  refine c_false rfl rfl ?_
  refine wp_skip ?_
  refine c_end0 Tryz.results127  ?_
  exact ⟨rfl, hH⟩
set_option maxHeartbeats 4000000 in
theorem ws_f {E w : World} {R hs : List Hp} {bb : Nat} {v : Value} {l : List UInt8} (hH : Has E w [hs, [Hp.one bb (.cells #[(.pointer none), v] 145 (0, 0))], R]) (ho : Own 5 1 v l.length (l.map bV) hs) (hnil : l = [] → v = .slice none 0 0) (s : List UInt8) (hb : l.length + s.length ≤ 140737488355328) :
    Calls Tryz.prog 103 #[(.pointer (some ⟨bb, 0, none⟩)), (S s)] w fun e w' => ∃ v' hs', e = .returned (.tuple #[.int .i64 (s.length : Int), .nilIface]) ∧ Own 5 1 v' (l ++ s).length ((l ++ s).map bV) hs' ∧ (l ++ s = [] → v' = .slice none 0 0) ∧ Has E w' [hs', [Hp.one bb (.cells #[(.pointer (some ⟨bb, 0, none⟩)), v'] 145 (0, 0))], R] := by
  refine c_enter (args := [(.pointer (some ⟨bb, 0, none⟩)), (S s)]) Tryz.func103 rfl Tryz.ntmps103 (by simp) ?_
  refine wp_seq_k fun K1 hK1 => ?_
  refine c_region ?_
  refine s_op (o_assign (v := (.int .i64 0)) rfl ?_)
  refine s_op (o_assign (v := Value.nilIface) rfl ?_)
  refine s_nil ?_
  refine t_norm (hK1 _ _ ?_)
  refine wp_seq_k fun K2 hK2 => ?_
  refine c_region ?_
  refine s_op (o_move (v := (.pointer (some ⟨bb, 0, none⟩))) rfl ?_)
  refine s_op (o_callf (vs := #[(.pointer (some ⟨bb, 0, none⟩))]) ca127 rfl (args1 rfl) (cc_f (hH.front 1 rfl).all1) ?_)
  rintro _ w5 ⟨rfl, hX3⟩
  refine ⟨_, rfl, ?_⟩
  have hH4 : Has E w5 [[Hp.one bb (.cells #[(.pointer (some ⟨bb, 0, none⟩)), v] 145 (0, 0))], hs, R] := hX3.of_all1
  refine s_nil ?_
  refine t_norm (hK2 _ _ ?_)
  refine wp_seq_k fun K6 hK6 => ?_
  refine c_region ?_
  refine s_op (o_move (v := (.pointer (some ⟨bb, 0, none⟩))) rfl ?_)
  refine s_op (o_move (v := (.pointer (some ⟨bb, 0, none⟩))) rfl ?_)
  refine s_op (o_nilCheck rfl ?_)
  refine s_op (o_fieldAddr (k := 1) (fun _ => by kernel_rfl) rfl ?_)
  refine s_op (o_load1 (v := v) Tryz.underlying54 rfl rfl hH4 (seg_sub 0 rfl) (CellsAt.one rfl) ?_)
  refine s_op (o_move (v := (S s)) rfl ?_)
  refine s_op (o_appstr Tryz.underlying54 Tryz.underlying9 ti5 rfl ho rfl (hH4.front 1 rfl) (by omega) fun v7 s8 w11 ho9 hn10 hH12 => ?_)
  have ho9 : Own 5 1 v7 (l ++ s).length ((l ++ s).map bV) s8 := by rw [List.length_append, List.map_append]; exact ho9
  refine s_op (o_nilCheck rfl ?_)
  refine s_op (o_fieldAddr (k := 1) (fun _ => by kernel_rfl) rfl ?_)
  refine s_eff (o_store1 (c' := #[(.pointer (some ⟨bb, 0, none⟩)), v7]) ti54 rfl rfl ho9.one (by simp) rfl (hH12.front 1 rfl) fun w13 hH14 => ?_)
  refine s_nil ?_
  refine t_norm (hK6 _ _ ?_)
  refine wp_seq_k fun K15 hK15 => ?_
  refine c_region ?_
  refine s_op (o_move (v := (S s)) rfl ?_)
  refine s_op (o_slen Tryz.underlying9 rfl ?_)
  refine s_op (o_assign (v := (.int .i64 (s.length : Int))) rfl ?_)
  refine s_op (o_assign (v := Value.nilIface) rfl ?_)
  refine s_nil ?_
  refine t_norm (hK15 _ _ ?_)
  refine wp_ret ?_
  refine c_ret2 Tryz.results103  (v := (.int .i64 (s.length : Int))) rfl (x := Value.nilIface) rfl ?_
  have hH16 : Has E w13 [s8, [Hp.one bb (.cells #[(.pointer (some ⟨bb, 0, none⟩)), v7] 145 (0, 0))], R] := (((hH14.front 2 rfl).front 1 rfl).front 2 rfl).first 3 rfl
  exact ⟨_, _, rfl, ho9, fun h => hn10 (hnil (List.append_eq_nil_iff.1 h).1) (List.append_eq_nil_iff.1 h).2, hH16⟩
set_option maxHeartbeats 4000000 in
theorem ws_u {E w : World} {R hs : List Hp} {bb : Nat} {v : Value} {l : List UInt8} (hH : Has E w [hs, [Hp.one bb (.cells #[(.pointer (some ⟨bb, 0, none⟩)), v] 145 (0, 0))], R]) (ho : Own 5 1 v l.length (l.map bV) hs) (hnil : l = [] → v = .slice none 0 0) (s : List UInt8) (hb : l.length + s.length ≤ 140737488355328) :
    Calls Tryz.prog 103 #[(.pointer (some ⟨bb, 0, none⟩)), (S s)] w fun e w' => ∃ v' hs', e = .returned (.tuple #[.int .i64 (s.length : Int), .nilIface]) ∧ Own 5 1 v' (l ++ s).length ((l ++ s).map bV) hs' ∧ (l ++ s = [] → v' = .slice none 0 0) ∧ Has E w' [hs', [Hp.one bb (.cells #[(.pointer (some ⟨bb, 0, none⟩)), v'] 145 (0, 0))], R] := by
  refine c_enter (args := [(.pointer (some ⟨bb, 0, none⟩)), (S s)]) Tryz.func103 rfl Tryz.ntmps103 (by simp) ?_
  refine wp_seq_k fun K1 hK1 => ?_
  refine c_region ?_
  refine s_op (o_assign (v := (.int .i64 0)) rfl ?_)
  refine s_op (o_assign (v := Value.nilIface) rfl ?_)
  refine s_nil ?_
  refine t_norm (hK1 _ _ ?_)
  refine wp_seq_k fun K2 hK2 => ?_
  refine c_region ?_
  refine s_op (o_move (v := (.pointer (some ⟨bb, 0, none⟩))) rfl ?_)
  refine s_op (o_callf (vs := #[(.pointer (some ⟨bb, 0, none⟩))]) ca127 rfl (args1 rfl) (cc_u (hH.front 1 rfl).all1) ?_)
  rintro _ w5 ⟨rfl, hX3⟩
  refine ⟨_, rfl, ?_⟩
  have hH4 : Has E w5 [[Hp.one bb (.cells #[(.pointer (some ⟨bb, 0, none⟩)), v] 145 (0, 0))], hs, R] := hX3.of_all1
  refine s_nil ?_
  refine t_norm (hK2 _ _ ?_)
  refine wp_seq_k fun K6 hK6 => ?_
  refine c_region ?_
  refine s_op (o_move (v := (.pointer (some ⟨bb, 0, none⟩))) rfl ?_)
  refine s_op (o_move (v := (.pointer (some ⟨bb, 0, none⟩))) rfl ?_)
  refine s_op (o_nilCheck rfl ?_)
  refine s_op (o_fieldAddr (k := 1) (fun _ => by kernel_rfl) rfl ?_)
  refine s_op (o_load1 (v := v) Tryz.underlying54 rfl rfl hH4 (seg_sub 0 rfl) (CellsAt.one rfl) ?_)
  refine s_op (o_move (v := (S s)) rfl ?_)
  refine s_op (o_appstr Tryz.underlying54 Tryz.underlying9 ti5 rfl ho rfl (hH4.front 1 rfl) (by omega) fun v7 s8 w11 ho9 hn10 hH12 => ?_)
  have ho9 : Own 5 1 v7 (l ++ s).length ((l ++ s).map bV) s8 := by rw [List.length_append, List.map_append]; exact ho9
  refine s_op (o_nilCheck rfl ?_)
  refine s_op (o_fieldAddr (k := 1) (fun _ => by kernel_rfl) rfl ?_)
  refine s_eff (o_store1 (c' := #[(.pointer (some ⟨bb, 0, none⟩)), v7]) ti54 rfl rfl ho9.one (by simp) rfl (hH12.front 1 rfl) fun w13 hH14 => ?_)
  refine s_nil ?_
  refine t_norm (hK6 _ _ ?_)
  refine wp_seq_k fun K15 hK15 => ?_
  refine c_region ?_
  refine s_op (o_move (v := (S s)) rfl ?_)
  refine s_op (o_slen Tryz.underlying9 rfl ?_)
  refine s_op (o_assign (v := (.int .i64 (s.length : Int))) rfl ?_)
  refine s_op (o_assign (v := Value.nilIface) rfl ?_)
  refine s_nil ?_
  refine t_norm (hK15 _ _ ?_)
  refine wp_ret ?_
  refine c_ret2 Tryz.results103  (v := (.int .i64 (s.length : Int))) rfl (x := Value.nilIface) rfl ?_
  have hH16 : Has E w13 [s8, [Hp.one bb (.cells #[(.pointer (some ⟨bb, 0, none⟩)), v7] 145 (0, 0))], R] := (((hH14.front 2 rfl).front 1 rfl).front 2 rfl).first 3 rfl
  exact ⟨_, _, rfl, ho9, fun h => hn10 (hnil (List.append_eq_nil_iff.1 h).1) (List.append_eq_nil_iff.1 h).2, hH16⟩
/-- A builder that holds these bytes. -/
def Bld (b : Nat) (l : List UInt8) (sg : List Hp) : Prop := ∃ a v hs, sg = hs ++ [Hp.one b (.cells #[a, v] 145 (0, 0))] ∧ (a = .pointer none ∨ a = .pointer (some ⟨b, 0, none⟩)) ∧ Own 5 1 v l.length (l.map bV) hs ∧ (l = [] → v = .slice none 0 0)
theorem Bld.new (b : Nat) : Bld b [] [Hp.one b (.cells #[.pointer none, .slice none 0 0] 145 (0, 0))] := ⟨_, _, [], rfl, .inl rfl, Own.nil 5 1, fun _ => rfl⟩
theorem bws {E w : World} {R sg : List Hp} {b : Nat} {l : List UInt8} (hH : Has E w [sg, R]) (hB : Bld b l sg) (s : List UInt8) (hb : l.length + s.length ≤ 140737488355328) :
    Calls Tryz.prog 103 #[.pointer (some ⟨b, 0, none⟩), S s] w fun e w' => ∃ sg', e = .returned (.tuple #[.int .i64 (s.length : Int), .nilIface]) ∧ Bld b (l ++ s) sg' ∧ Has E w' [sg', R] := by
  obtain ⟨a, v, hs, rfl, rfl | rfl, ho, hn⟩ := hB
  · exact (ws_f hH.open2 ho hn s hb).mono fun e w' ⟨v', hs', he, ho', hn', hH'⟩ => ⟨_, he, ⟨_, _, _, rfl, .inr rfl, ho', hn'⟩, hH'.close2⟩
  · exact (ws_u hH.open2 ho hn s hb).mono fun e w' ⟨v', hs', he, ho', hn', hH'⟩ => ⟨_, he, ⟨_, _, _, rfl, .inr rfl, ho', hn'⟩, hH'.close2⟩
end Go.Q
namespace Go.Q
open Go.Proofs
set_option linter.unusedVariables false
set_option maxRecDepth 100000
attribute [local irreducible] wpList OK Code.wp
set_option maxHeartbeats 4000000 in
theorem bsK_nil {E w : World} {R : List Hp} {bb : Nat} {a : Value} (hH : Has E w [[Hp.one bb (.cells #[a, (.slice none 0 0)] 145 (0, 0))], R]) :
    Calls Tryz.prog 104 #[(.pointer (some ⟨bb, 0, none⟩))] w fun e w' => e = .returned (S ([] : List UInt8)) ∧ Has E w' [[Hp.one bb (.cells #[a, (.slice none 0 0)] 145 (0, 0))], R] := by
  refine c_enter (args := [(.pointer (some ⟨bb, 0, none⟩))]) Tryz.func104 rfl Tryz.ntmps104 (by simp) ?_
  refine wp_seq_k fun K1 hK1 => ?_
  refine c_region ?_
  refine s_op (o_assign (v := (S ([] : List UInt8))) rfl ?_)
  refine s_nil ?_
  refine t_norm (hK1 _ _ ?_)
  refine wp_seq_k fun K2 hK2 => ?_
  refine Rest.region mixed (by kernel_rfl) ?_
  have hH3 : Has E { w with drawn := w.drawn + 1 } [[Hp.one bb (.cells #[a, (.slice none 0 0)] 145 (0, 0))], R] := Has0.drew hH _
  refine Rest.phaseA (fun w_ => Has E w_ [[Hp.one bb (.cells #[a, (.slice none 0 0)] 145 (0, 0))]]) 0 10 10 rfl (by decide) (by kernel_rfl) ?_
  refine a_op 0 rfl (by kernel_rfl) (fun w_ h_ => o_move (v := (.pointer (some ⟨bb, 0, none⟩))) rfl ⟨rfl, rfl⟩) ?_
  refine a_op 1 rfl (by kernel_rfl) (fun w_ h_ => o_nilCheck rfl ⟨rfl, rfl⟩) ?_
  refine a_op 2 rfl (by kernel_rfl) (fun w_ h_ => o_fieldAddr (k := 1) (fun _ => by kernel_rfl) rfl ⟨rfl, rfl⟩) ?_
  refine a_op 3 rfl (by kernel_rfl) (fun w_ h_ => o_load1 (v := (.slice none 0 0)) Tryz.underlying54 rfl rfl h_ (seg_sub 0 rfl) (CellsAt.one rfl) ⟨rfl, rfl⟩) ?_
  refine a_op 5 rfl (by kernel_rfl) (fun w_ h_ => o_move (v := (.pointer (some ⟨bb, 0, none⟩))) rfl ⟨rfl, rfl⟩) ?_
  refine a_op 6 rfl (by kernel_rfl) (fun w_ h_ => o_nilCheck rfl ⟨rfl, rfl⟩) ?_
  refine a_op 7 rfl (by kernel_rfl) (fun w_ h_ => o_fieldAddr (k := 1) (fun _ => by kernel_rfl) rfl ⟨rfl, rfl⟩) ?_
  refine a_op 8 rfl (by kernel_rfl) (fun w_ h_ => o_load1 (v := (.slice none 0 0)) Tryz.underlying54 rfl rfl h_ (seg_sub 0 rfl) (CellsAt.one rfl) ⟨rfl, rfl⟩) ?_
  refine a_op 9 rfl (by kernel_rfl) (fun w_ h_ => o_lenS Tryz.underlying54 rfl (sl_nil (L := []) 1) ⟨rfl, rfl⟩) ?_
  have hH4 : Has E { w with drawn := w.drawn + 1 } [[Hp.one bb (.cells #[a, (.slice none 0 0)] 145 (0, 0))]] := hH3.first 1 rfl
  refine a_w 4 rfl (by kernel_rfl) hH4 (o_uSDnil rfl ?_)
  have hH5 : Has E { w with drawn := w.drawn + 1 } [[Hp.one bb (.cells #[a, (.slice none 0 0)] 145 (0, 0))]] := hH3.first 1 rfl
  refine a_done (by kernel_rfl) hH5 ?_
  refine r_op 10 rfl (by kernel_rfl) (o_uStrNil rfl rfl ?_)
  refine r_op 11 rfl (by kernel_rfl) (o_assign (v := (S ([] : List UInt8))) rfl ?_)
  refine Rest.done (by kernel_rfl) ?_
  refine t_norm (hK2 _ _ ?_)
  refine wp_ret ?_
  refine c_ret1 Tryz.results104  (v := (S ([] : List UInt8))) rfl ?_
  exact ⟨rfl, hH3⟩
set_option maxHeartbeats 4000000 in
theorem bsK_row {E w : World} {R : List Hp} {bb : Nat} {a : Value} {g cap : Nat} {hs : List Hp} {l : List UInt8} (hH : Has E w [hs, [Hp.one bb (.cells #[a, (.slice (some ⟨g, 0, none⟩) l.length cap)] 145 (0, 0))], R]) (ho : Own 5 1 (.slice (some ⟨g, 0, none⟩) l.length cap) l.length (l.map bV) hs) (hne : l ≠ []) (hcap : cap ≠ 0) :
    Calls Tryz.prog 104 #[(.pointer (some ⟨bb, 0, none⟩))] w fun e w' => e = .returned (S l) ∧ Has E w' [[Hp.one bb (.cells #[a, (.slice (some ⟨g, 0, none⟩) l.length cap)] 145 (0, 0))], R] := by
  refine c_enter (args := [(.pointer (some ⟨bb, 0, none⟩))]) Tryz.func104 rfl Tryz.ntmps104 (by simp) ?_
  refine wp_seq_k fun K1 hK1 => ?_
  refine c_region ?_
  refine s_op (o_assign (v := (S ([] : List UInt8))) rfl ?_)
  refine s_nil ?_
  refine t_norm (hK1 _ _ ?_)
  refine wp_seq_k fun K2 hK2 => ?_
  refine Rest.region mixed (by kernel_rfl) ?_
  have hH3 : Has E { w with drawn := w.drawn + 1 } [hs, [Hp.one bb (.cells #[a, (.slice (some ⟨g, 0, none⟩) l.length cap)] 145 (0, 0))], R] := Has0.drew hH _
  refine Rest.phaseA (fun w_ => Has E w_ [[Hp.one bb (.cells #[a, (.slice (some ⟨g, 0, none⟩) l.length cap)] 145 (0, 0))]]) 0 10 10 rfl (by decide) (by kernel_rfl) ?_
  refine a_op 0 rfl (by kernel_rfl) (fun w_ h_ => o_move (v := (.pointer (some ⟨bb, 0, none⟩))) rfl ⟨rfl, rfl⟩) ?_
  refine a_op 1 rfl (by kernel_rfl) (fun w_ h_ => o_nilCheck rfl ⟨rfl, rfl⟩) ?_
  refine a_op 2 rfl (by kernel_rfl) (fun w_ h_ => o_fieldAddr (k := 1) (fun _ => by kernel_rfl) rfl ⟨rfl, rfl⟩) ?_
  refine a_op 3 rfl (by kernel_rfl) (fun w_ h_ => o_load1 (v := (.slice (some ⟨g, 0, none⟩) l.length cap)) Tryz.underlying54 rfl rfl h_ (seg_sub 0 rfl) (CellsAt.one rfl) ⟨rfl, rfl⟩) ?_
  refine a_op 5 rfl (by kernel_rfl) (fun w_ h_ => o_move (v := (.pointer (some ⟨bb, 0, none⟩))) rfl ⟨rfl, rfl⟩) ?_
  refine a_op 6 rfl (by kernel_rfl) (fun w_ h_ => o_nilCheck rfl ⟨rfl, rfl⟩) ?_
  refine a_op 7 rfl (by kernel_rfl) (fun w_ h_ => o_fieldAddr (k := 1) (fun _ => by kernel_rfl) rfl ⟨rfl, rfl⟩) ?_
  refine a_op 8 rfl (by kernel_rfl) (fun w_ h_ => o_load1 (v := (.slice (some ⟨g, 0, none⟩) l.length cap)) Tryz.underlying54 rfl rfl h_ (seg_sub 0 rfl) (CellsAt.one rfl) ⟨rfl, rfl⟩) ?_
  refine a_op 9 rfl (by kernel_rfl) (fun w_ h_ => o_lenS Tryz.underlying54 rfl ho.sl ⟨rfl, rfl⟩) ?_
  have hH4 : Has E { w with drawn := w.drawn + 1 } [[Hp.one bb (.cells #[a, (.slice (some ⟨g, 0, none⟩) l.length cap)] 145 (0, 0))]] := (hH3.front 1 rfl).first 1 rfl
  refine a_w 4 rfl (by kernel_rfl) hH4 (o_uSD (a := ⟨g, 0, none⟩) rfl hcap ?_)
  have hH5 : Has E { w with drawn := w.drawn + 1 } [[Hp.one bb (.cells #[a, (.slice (some ⟨g, 0, none⟩) l.length cap)] 145 (0, 0))]] := (hH3.front 1 rfl).first 1 rfl
  refine a_done (by kernel_rfl) hH5 ?_
  refine r_op 10 rfl (by kernel_rfl) (o_uStr Tryz.underlying172 (by kernel_rfl) rfl rfl ho hne hH3 fun w6 hH7 => ?_)
  refine r_op 11 rfl (by kernel_rfl) (o_assign (v := (S l)) rfl ?_)
  refine Rest.done (by kernel_rfl) ?_
  refine t_norm (hK2 _ _ ?_)
  refine wp_ret ?_
  refine c_ret1 Tryz.results104  (v := (S l)) rfl ?_
  exact ⟨rfl, hH7⟩
set_option maxHeartbeats 4000000 in
theorem blenb {E w : World} {R : List Hp} {bb n c : Nat} {a : Value} {p : Option Addr} (hH : Has E w [[Hp.one bb (.cells #[a, (.slice p n c)] 145 (0, 0))], R]) :
    Calls Tryz.prog 120 #[(.pointer (some ⟨bb, 0, none⟩))] w fun e w' => e = .returned (.int .i64 (n : Int)) ∧ Has E w' [[Hp.one bb (.cells #[a, (.slice p n c)] 145 (0, 0))], R] := by
  refine c_enter (args := [(.pointer (some ⟨bb, 0, none⟩))]) Tryz.func120 rfl Tryz.ntmps120 (by simp) ?_
  refine wp_seq_k fun K1 hK1 => ?_
  refine c_region ?_
  refine s_op (o_assign (v := (.int .i64 0)) rfl ?_)
  refine s_nil ?_
  refine t_norm (hK1 _ _ ?_)
  refine wp_seq_k fun K2 hK2 => ?_
  refine c_region ?_
  refine s_op (o_move (v := (.pointer (some ⟨bb, 0, none⟩))) rfl ?_)
  refine s_op (o_nilCheck rfl ?_)
  refine s_op (o_fieldAddr (k := 1) (fun _ => by kernel_rfl) rfl ?_)
  refine s_op (o_load1 (v := (.slice p n c)) Tryz.underlying54 rfl rfl hH (seg_sub 0 rfl) (CellsAt.one rfl) ?_)
  refine s_op (o_len Tryz.underlying54 rfl ?_)
  refine s_op (o_assign (v := (.int .i64 (n : Int))) rfl ?_)
  refine s_nil ?_
  refine t_norm (hK2 _ _ ?_)
  refine wp_ret ?_
  refine c_ret1 Tryz.results120  (v := (.int .i64 (n : Int))) rfl ?_
  exact ⟨rfl, hH⟩
theorem bstrK {E w : World} {R sg : List Hp} {b : Nat} {l : List UInt8} (hH : Has E w [sg, R]) (hB : Bld b l sg) :
    Calls Tryz.prog 104 #[.pointer (some ⟨b, 0, none⟩)] w fun e w' => ∃ a p c, e = .returned (S l) ∧ Has E w' [[Hp.one b (.cells #[a, .slice p l.length c] 145 (0, 0))], R] := by
  obtain ⟨a, v, hs, rfl, _, ho, hn⟩ := hB
  by_cases hl : l = []
  · obtain rfl := hn hl
    subst hl
    exact (bsK_nil hH.open2.drop).mono fun e w' ⟨he, hH'⟩ => ⟨a, none, 0, he, hH'⟩
  · have ho2 := ho
    obtain ⟨hlc, ⟨_, h, _⟩ | ⟨g, cap, cur, rfl, rfl, hnc, _⟩⟩ := ho
    · exact absurd (List.eq_nil_of_length_eq_zero h) hl
    · exact (bsK_row hH.open2 ho2 hl (fun e => hl (List.eq_nil_of_length_eq_zero (by omega)))).mono fun e w' ⟨he, hH'⟩ => ⟨a, _, cap, he, hH'⟩
end Go.Q
namespace Go.Q
open Go.Proofs
set_option linter.unusedVariables false
set_option maxRecDepth 100000
attribute [local irreducible] wpList OK Code.wp
end Go.Q
namespace Go.Q
open Go.Proofs
set_option linter.unusedVariables false
set_option maxRecDepth 100000
attribute [local irreducible] wpList OK Code.wp
set_option maxHeartbeats 4000000 in
theorem of2_c {E w : World} {R : List Hp} (hH : Has E w [R]) (hg : CellsAt R 1 0 nibV) {v : Value} {l : List (List UInt8)} (hv : Sl R 1 v l.length (l.map sV)) (hlb : ∀ x ∈ l, x.length ≤ 9223372036854775807) :
    Calls Tryz.prog 165 #[v] w fun e w' => e = .returned (.int .u32 ((crcS l.flatten).toNat : Int)) ∧ Has E w' [R] := by
  have hn := hv.le
  refine c_enter (args := [v]) Tryz.func165 rfl Tryz.ntmps165 (by simp) ?_
  refine wp_seq_k fun K1 hK1 => ?_
  refine c_region ?_
  refine s_op (o_assign (v := (.int .u32 0)) rfl ?_)
  refine s_nil ?_
  refine t_norm (hK1 _ _ ?_)
  refine wp_seq_k fun K2 hK2 => ?_
  refine c_region ?_
  refine s_op (o_assign (v := (.int .u32 4294967295)) rfl ?_)
  refine s_nil ?_
  refine t_norm (hK2 _ _ ?_)
  refine wp_seq_k fun K3 hK3 => ?_
  refine wp_seq_k fun K4 hK4 => ?_
  refine c_region ?_
  refine s_op (o_move (v := v) rfl ?_)
  refine s_op (o_lenS Tryz.underlying102 rfl hv ?_)
  refine s_op (o_move (v := (.int .i64 0)) rfl ?_)
  refine s_nil ?_
  refine t_norm (hK4 _ _ ?_)
  refine wp_block ?_
  let I6 : Nat → (Nat → Value) → World → Prop := fun n__ r__ w__ => ∃ (k : Nat) (r : BitVec 32), n__ = l.length - k ∧ Has E w__ [R] ∧ (k ≤ l.length) ∧ (r = crcF (4294967295#32) (l.take k).flatten) ∧ r__ 0 = v ∧ r__ 2 = (.int .u32 0) ∧ r__ 3 = (.int .u32 (r.toNat : Int)) ∧ r__ 7 = v ∧ r__ 8 = (.int .i64 ((l.length : Nat) : Int)) ∧ r__ 9 = (.int .i64 (k : Int))
  refine c_loop I6 _ ⟨0, (4294967295#32), rfl, hH, Nat.zero_le _, rfl, rfl, rfl, rfl, rfl, rfl, rfl⟩ ?_
  rintro n_ r9 w7 ⟨k, r, rfl, hH8, hk, hr, e5_0, e5_2, e5_3, e5_7, e5_8, e5_9⟩
  refine wp_seq_k fun K10 hK10 => ?_
  refine c_region ?_
  refine s_op (o_lss (a := (k : Int)) (b := ((l.length : Nat) : Int)) e5_9 e5_8 ?_)
  refine s_nil ?_
  refine t_norm (hK10 _ _ ?_)
  refine wp_seq_k fun K11 hK11 => ?_
  refine c_cond rfl (fun h12 => ?_) (fun h12 => ?_)
  · -- (k : Int) < ((l.length : Nat) : Int)
    refine wp_skip ?_
    refine t_norm (hK11 _ _ ?_)
    refine wp_seq_k fun K13 hK13 => ?_
    refine wp_block ?_
    refine wp_seq_k fun K14 hK14 => ?_
    refine c_region ?_
    obtain ⟨x18, hx19⟩ : ∃ x_, l[((k : Int)).toNat]? = some x_ := get_some (by omega)
    refine s_op (o_index1 Tryz.underlying102 ti9 e5_7 hv e5_9 (by omega) hx19 fun b15 o16 hc17 => ?_)
    refine s_op (o_load1 (v := (S x18)) Tryz.underlying9 rfl rfl hH8 (seg_sub 0 rfl) hc17 ?_)
    refine s_op (o_assign (v := (S x18)) rfl ?_)
    refine s_nil ?_
    refine t_norm (hK14 _ _ ?_)
    refine wp_seq_k fun K20 hK20 => ?_
    refine c_region ?_
    refine s_op (o_move (v := (S x18)) rfl ?_)
    refine s_op (o_slen Tryz.underlying9 rfl ?_)
    refine s_op (o_move (v := (.int .i64 0)) rfl ?_)
    refine s_nil ?_
    refine t_norm (hK20 _ _ ?_)
    refine wp_block ?_
    have hxl := hlb x18 (List.mem_of_getElem? hx19)
    let I22 : Nat → (Nat → Value) → World → Prop := fun n__ r__ w__ => ∃ (j : Nat) (r2 : BitVec 32), n__ = x18.length - j ∧ Has E w__ [R] ∧ (j ≤ x18.length) ∧ (r2 = crcF r (x18.take j)) ∧ r__ 0 = v ∧ r__ 2 = (.int .u32 0) ∧ r__ 3 = (.int .u32 (r2.toNat : Int)) ∧ r__ 5 = (S x18) ∧ r__ 7 = v ∧ r__ 8 = (.int .i64 ((l.length : Nat) : Int)) ∧ r__ 9 = (.int .i64 (k : Int)) ∧ r__ 10 = (.bool (decide ((k : Int) < ((l.length : Nat) : Int)))) ∧ r__ 14 = (.int .i64 (x18.length : Int)) ∧ r__ 15 = (.int .i64 (j : Int))
    refine c_loop I22 _ ⟨0, r, rfl, hH8, Nat.zero_le _, rfl, e5_0, e5_2, e5_3, rfl, e5_7, e5_8, e5_9, rfl, rfl, rfl⟩ ?_
    rintro n_ r25 w23 ⟨j, r2, rfl, hH24, hj, hr2, e21_0, e21_2, e21_3, e21_5, e21_7, e21_8, e21_9, e21_10, e21_14, e21_15⟩
    refine wp_seq_k fun K26 hK26 => ?_
    refine c_region ?_
    refine s_op (o_lss (a := (j : Int)) (b := (x18.length : Int)) e21_15 e21_14 ?_)
    refine s_nil ?_
    refine t_norm (hK26 _ _ ?_)
    refine wp_seq_k fun K27 hK27 => ?_
    refine c_cond rfl (fun h28 => ?_) (fun h28 => ?_)
    · -- (j : Int) < (x18.length : Int)
      refine wp_skip ?_
      refine t_norm (hK27 _ _ ?_)
      refine wp_seq_k fun K29 hK29 => ?_
      refine wp_block ?_
      refine wp_seq_k fun K30 hK30 => ?_
      refine c_region ?_
      refine s_op (o_move (v := (.int .i64 (j : Int))) e21_15 ?_)
      refine s_op (o_assign (v := (.int .i64 (j : Int))) rfl ?_)
      refine s_nil ?_
      refine t_norm (hK30 _ _ ?_)
      refine wp_seq_k fun K31 hK31 => ?_
      refine c_region ?_
      refine s_op (o_move (v := (.int .u32 (r2.toNat : Int))) e21_3 ?_)
      refine s_op (o_move (v := (S x18)) e21_5 ?_)
      refine s_op (o_move (v := (.int .i64 (j : Int))) rfl ?_)
      obtain ⟨c32, hx33⟩ : ∃ x_, x18[((j : Int)).toNat]? = some x_ := get_some (by omega)
      have c32_lt := c32.toNat_lt
      refine s_op (o_sidx Tryz.underlying9 rfl rfl (by omega) hx33 ?_)
      refine s_op (o_conv (c := ((b32 c32).toNat : Int)) Tryz.underlying5 Tryz.underlying160 rfl (conv_b32 _) ?_)
      refine s_op (o_xor (a := ((r2).toNat : Int)) (b := (((b32 c32)).toNat : Int)) (c := ((r2 ^^^ (b32 c32)).toNat : Int)) rfl rfl (xor32 r2 (b32 c32)) ?_)
      refine s_op (o_assign (v := (.int .u32 ((r2 ^^^ (b32 c32)).toNat : Int))) rfl ?_)
      refine s_nil ?_
      refine t_norm (hK31 _ _ ?_)
      refine wp_seq_k fun K34 hK34 => ?_
      refine c_region ?_
      refine s_op (o_move (v := (.int .u32 ((r2 ^^^ (b32 c32)).toNat : Int))) rfl ?_)
      refine s_op (o_shr (a := (((r2 ^^^ (b32 c32))).toNat : Int)) (b := ((4 : Nat) : Int)) (c := (((r2 ^^^ (b32 c32)) >>> 4).toNat : Int)) rfl rfl (by omega) (shr32 (r2 ^^^ (b32 c32)) 4 (by omega)) ?_)
      refine s_op (o_move (v := (.int .u32 ((r2 ^^^ (b32 c32)).toNat : Int))) rfl ?_)
      refine s_op (o_and (a := (((r2 ^^^ (b32 c32))).toNat : Int)) (b := ((15#32).toNat : Int)) (c := (((r2 ^^^ (b32 c32)) &&& 15#32).toNat : Int)) rfl rfl (and32 (r2 ^^^ (b32 c32)) (15#32)) ?_)
      refine s_op (o_idxArr (i := ((r2 ^^^ (b32 c32)) &&& 15#32).toNat) Tryz.underlying213 ti160 rfl rfl (and15_lt _) ?_)
      refine s_op (o_load1 (v := (.int .u32 ((nib ((r2 ^^^ (b32 c32)) &&& 15#32).toNat).toNat : Int))) Tryz.underlying160 rfl rfl hH24 (seg_sub 0 rfl) (nib_at hg (r2 ^^^ (b32 c32))) ?_)
      refine s_op (o_xor (a := ((((r2 ^^^ (b32 c32)) >>> 4)).toNat : Int)) (b := (((nib ((r2 ^^^ (b32 c32)) &&& 15#32).toNat)).toNat : Int)) (c := ((((r2 ^^^ (b32 c32)) >>> 4) ^^^ (nib ((r2 ^^^ (b32 c32)) &&& 15#32).toNat)).toNat : Int)) rfl rfl (xor32 ((r2 ^^^ (b32 c32)) >>> 4) (nib ((r2 ^^^ (b32 c32)) &&& 15#32).toNat)) ?_)
      refine s_op (o_assign (v := (.int .u32 ((((r2 ^^^ (b32 c32)) >>> 4) ^^^ (nib ((r2 ^^^ (b32 c32)) &&& 15#32).toNat)).toNat : Int))) rfl ?_)
      refine s_nil ?_
      refine t_norm (hK34 _ _ ?_)
      refine c_region ?_
      refine s_op (o_move (v := (.int .u32 ((((r2 ^^^ (b32 c32)) >>> 4) ^^^ (nib ((r2 ^^^ (b32 c32)) &&& 15#32).toNat)).toNat : Int))) rfl ?_)
      refine s_op (o_shr (a := (((((r2 ^^^ (b32 c32)) >>> 4) ^^^ (nib ((r2 ^^^ (b32 c32)) &&& 15#32).toNat))).toNat : Int)) (b := ((4 : Nat) : Int)) (c := (((((r2 ^^^ (b32 c32)) >>> 4) ^^^ (nib ((r2 ^^^ (b32 c32)) &&& 15#32).toNat)) >>> 4).toNat : Int)) rfl rfl (by omega) (shr32 (((r2 ^^^ (b32 c32)) >>> 4) ^^^ (nib ((r2 ^^^ (b32 c32)) &&& 15#32).toNat)) 4 (by omega)) ?_)
      refine s_op (o_move (v := (.int .u32 ((((r2 ^^^ (b32 c32)) >>> 4) ^^^ (nib ((r2 ^^^ (b32 c32)) &&& 15#32).toNat)).toNat : Int))) rfl ?_)
      refine s_op (o_and (a := (((((r2 ^^^ (b32 c32)) >>> 4) ^^^ (nib ((r2 ^^^ (b32 c32)) &&& 15#32).toNat))).toNat : Int)) (b := ((15#32).toNat : Int)) (c := (((((r2 ^^^ (b32 c32)) >>> 4) ^^^ (nib ((r2 ^^^ (b32 c32)) &&& 15#32).toNat)) &&& 15#32).toNat : Int)) rfl rfl (and32 (((r2 ^^^ (b32 c32)) >>> 4) ^^^ (nib ((r2 ^^^ (b32 c32)) &&& 15#32).toNat)) (15#32)) ?_)
      refine s_op (o_idxArr (i := ((((r2 ^^^ (b32 c32)) >>> 4) ^^^ (nib ((r2 ^^^ (b32 c32)) &&& 15#32).toNat)) &&& 15#32).toNat) Tryz.underlying213 ti160 rfl rfl (and15_lt _) ?_)
      refine s_op (o_load1 (v := (.int .u32 ((nib ((((r2 ^^^ (b32 c32)) >>> 4) ^^^ (nib ((r2 ^^^ (b32 c32)) &&& 15#32).toNat)) &&& 15#32).toNat).toNat : Int))) Tryz.underlying160 rfl rfl hH24 (seg_sub 0 rfl) (nib_at hg (((r2 ^^^ (b32 c32)) >>> 4) ^^^ (nib ((r2 ^^^ (b32 c32)) &&& 15#32).toNat))) ?_)
      refine s_op (o_xor (a := ((((((r2 ^^^ (b32 c32)) >>> 4) ^^^ (nib ((r2 ^^^ (b32 c32)) &&& 15#32).toNat)) >>> 4)).toNat : Int)) (b := (((nib ((((r2 ^^^ (b32 c32)) >>> 4) ^^^ (nib ((r2 ^^^ (b32 c32)) &&& 15#32).toNat)) &&& 15#32).toNat)).toNat : Int)) (c := ((((((r2 ^^^ (b32 c32)) >>> 4) ^^^ (nib ((r2 ^^^ (b32 c32)) &&& 15#32).toNat)) >>> 4) ^^^ (nib ((((r2 ^^^ (b32 c32)) >>> 4) ^^^ (nib ((r2 ^^^ (b32 c32)) &&& 15#32).toNat)) &&& 15#32).toNat)).toNat : Int)) rfl rfl (xor32 ((((r2 ^^^ (b32 c32)) >>> 4) ^^^ (nib ((r2 ^^^ (b32 c32)) &&& 15#32).toNat)) >>> 4) (nib ((((r2 ^^^ (b32 c32)) >>> 4) ^^^ (nib ((r2 ^^^ (b32 c32)) &&& 15#32).toNat)) &&& 15#32).toNat)) ?_)
      refine s_op (o_assign (v := (.int .u32 ((((((r2 ^^^ (b32 c32)) >>> 4) ^^^ (nib ((r2 ^^^ (b32 c32)) &&& 15#32).toNat)) >>> 4) ^^^ (nib ((((r2 ^^^ (b32 c32)) >>> 4) ^^^ (nib ((r2 ^^^ (b32 c32)) &&& 15#32).toNat)) &&& 15#32).toNat)).toNat : Int))) rfl ?_)
      refine s_nil ?_
      refine b_norm ?_
      refine t_norm (hK29 _ _ ?_)
      refine c_region ?_
      refine s_op (o_add (a := (j : Int)) (b := 1) e21_15 rfl (w64 (by omega) (by omega)) ?_)
      refine s_op (o_move (v := (.int .i64 ((j : Int) + 1))) rfl ?_)
      refine s_nil ?_
      refine t_norm ⟨x18.length - (j + 1), _, rfl, ?_, ?_⟩
      · omega
      · exact ⟨(j + 1), (((((r2 ^^^ (b32 c32)) >>> 4) ^^^ (nib ((r2 ^^^ (b32 c32)) &&& 15#32).toNat)) >>> 4) ^^^ (nib ((((r2 ^^^ (b32 c32)) >>> 4) ^^^ (nib ((r2 ^^^ (b32 c32)) &&& 15#32).toNat)) &&& 15#32).toNat)), rfl, hH24, (by omega), (by rw [take_succ_of (show x18[j]? = some _ from hx33), crcF_snoc, ← hr2, cby_nib]), e21_0, e21_2, rfl, e21_5, e21_7, e21_8, e21_9, e21_10, e21_14, rfl⟩
    · -- not: (j : Int) < (x18.length : Int)
      refine wp_exit ?_
      refine t_exit (t_exit (x_in (?_)))
      refine b_norm ?_
      refine t_norm (hK13 _ _ ?_)
      refine c_region ?_
      refine s_op (o_add (a := (k : Int)) (b := 1) e21_9 rfl (w64 (by omega) (by omega)) ?_)
      refine s_op (o_move (v := (.int .i64 ((k : Int) + 1))) rfl ?_)
      refine s_nil ?_
      refine t_norm ⟨l.length - (k + 1), _, rfl, ?_, ?_⟩
      · omega
      · exact ⟨(k + 1), r2, rfl, hH24, (by omega), (by rw [take_succ_of (show l[k]? = some _ from hx19), List.flatten_append, crcF_append, ← hr, hr2, show j = x18.length from by omega, List.take_length]; simp), e21_0, e21_2, e21_3, e21_7, e21_8, rfl⟩
  · -- not: (k : Int) < ((l.length : Nat) : Int)
    refine wp_exit ?_
    refine t_exit (t_exit (x_in (?_)))
    refine t_norm (hK3 _ _ ?_)
    refine wp_seq_k fun K35 hK35 => ?_
    refine c_region ?_
    refine s_op (o_move (v := (.int .u32 (r.toNat : Int))) e5_3 ?_)
    refine s_op (o_compl (a := r) Tryz.underlying160 rfl ?_)
    refine s_op (o_assign (v := (.int .u32 ((~~~ r).toNat : Int))) rfl ?_)
    refine s_nil ?_
    refine t_norm (hK35 _ _ ?_)
    refine wp_ret ?_
    refine c_ret1 Tryz.results165  (v := (.int .u32 ((~~~ r).toNat : Int))) rfl ?_
    have e : k = l.length := by omega
    rw [e, List.take_length] at hr
    subst hr
    exact ⟨rfl, hH8⟩
end Go.Q
namespace Go.Q
open Go.Proofs
set_option linter.unusedVariables false
set_option maxRecDepth 100000
attribute [local irreducible] wpList OK Code.wp
set_option maxHeartbeats 4000000 in
theorem laid_c {E w : World} {R : List Hp} (hH : Has E w [R]) (hg : CellsAt R 1 0 nibV) {v : Value} {l : List (List UInt8)} (hv : Sl R 1 v l.length (l.map sV)) (hlb : ∀ x ∈ l, x.length ≤ 9223372036854775807) :
    Calls Tryz.prog 143 #[v] w fun e w' => e = .returned (S (laidS (crcS l.flatten))) ∧ Has E w' [R] := by
  refine c_enter (args := [v]) Tryz.func143 rfl Tryz.ntmps143 (by simp) ?_
  refine wp_seq_k fun K1 hK1 => ?_
  refine c_region ?_
  refine s_op (o_assign (v := (S ([] : List UInt8))) rfl ?_)
  refine s_nil ?_
  refine t_norm (hK1 _ _ ?_)
  refine wp_seq_k fun K2 hK2 => ?_
  refine c_region ?_
  refine s_op (o_move (v := v) rfl ?_)
  refine s_op (o_callf (vs := #[v]) ca165 rfl (args1 rfl) (of2_c hH.all (hg.mono (seg_sub 0 rfl)) (hv.mono (seg_sub 0 rfl)) hlb) ?_)
  rintro _ w5 ⟨rfl, hX3⟩
  refine ⟨_, rfl, ?_⟩
  have hH4 := hX3.of_all
  refine s_op (o_assign (v := (.int .u32 ((crcS l.flatten).toNat : Int))) rfl ?_)
  refine s_nil ?_
  refine t_norm (hK2 _ _ ?_)
  refine wp_seq_k fun K6 hK6 => ?_
  refine c_region ?_
  refine s_op (o_move (v := (.int .u32 ((crcS l.flatten).toNat : Int))) rfl ?_)
  refine s_op (o_conv (c := ((lo8 (crcS l.flatten)).toNat : Int)) Tryz.underlying160 Tryz.underlying5 rfl (conv_lo8 _) ?_)
  refine s_op (o_move (v := (.int .u32 ((crcS l.flatten).toNat : Int))) rfl ?_)
  refine s_op (o_shr (a := (((crcS l.flatten)).toNat : Int)) (b := ((8 : Nat) : Int)) (c := (((crcS l.flatten) >>> 8).toNat : Int)) rfl rfl (by omega) (shr32 (crcS l.flatten) 8 (by omega)) ?_)
  refine s_op (o_conv (c := ((lo8 ((crcS l.flatten) >>> 8)).toNat : Int)) Tryz.underlying160 Tryz.underlying5 rfl (conv_lo8 _) ?_)
  refine s_op (o_move (v := (.int .u32 ((crcS l.flatten).toNat : Int))) rfl ?_)
  refine s_op (o_shr (a := (((crcS l.flatten)).toNat : Int)) (b := ((16 : Nat) : Int)) (c := (((crcS l.flatten) >>> 16).toNat : Int)) rfl rfl (by omega) (shr32 (crcS l.flatten) 16 (by omega)) ?_)
  refine s_op (o_conv (c := ((lo8 ((crcS l.flatten) >>> 16)).toNat : Int)) Tryz.underlying160 Tryz.underlying5 rfl (conv_lo8 _) ?_)
  refine s_op (o_move (v := (.int .u32 ((crcS l.flatten).toNat : Int))) rfl ?_)
  refine s_op (o_shr (a := (((crcS l.flatten)).toNat : Int)) (b := ((24 : Nat) : Int)) (c := (((crcS l.flatten) >>> 24).toNat : Int)) rfl rfl (by omega) (shr32 (crcS l.flatten) 24 (by omega)) ?_)
  refine s_op (o_conv (c := ((lo8 ((crcS l.flatten) >>> 24)).toNat : Int)) Tryz.underlying160 Tryz.underlying5 rfl (conv_lo8 _) ?_)
  refine s_op (o_buildSlice (ps := #[(0, (bV (lo8 (crcS l.flatten)))), (1, (bV (lo8 ((crcS l.flatten) >>> 8)))), (2, (bV (lo8 ((crcS l.flatten) >>> 16)))), (3, (bV (lo8 ((crcS l.flatten) >>> 24))))]) (cells := #[(bV (lo8 (crcS l.flatten))), (bV (lo8 ((crcS l.flatten) >>> 8))), (bV (lo8 ((crcS l.flatten) >>> 16))), (bV (lo8 ((crcS l.flatten) >>> 24)))]) Tryz.underlying54 ti5 (by decide) (parts4 rfl rfl rfl rfl) (by kernel_rfl) hH4 fun b7 w8 hH9 => ?_)
  refine s_op (o_bstr Tryz.underlying54 Tryz.underlying5 Tryz.underlying9 rfl (sl_lit (f := bV) (l := [(lo8 (crcS l.flatten)), (lo8 ((crcS l.flatten) >>> 8)), (lo8 ((crcS l.flatten) >>> 16)), (lo8 ((crcS l.flatten) >>> 24))]) rfl rfl (by simp)) hH9 (seg_sub 0 rfl) ?_)
  refine s_op (o_assign (v := (S [(lo8 (crcS l.flatten)), (lo8 ((crcS l.flatten) >>> 8)), (lo8 ((crcS l.flatten) >>> 16)), (lo8 ((crcS l.flatten) >>> 24))])) rfl ?_)
  refine s_nil ?_
  refine t_norm (hK6 _ _ ?_)
  refine wp_ret ?_
  refine c_ret1 Tryz.results143  (v := (S [(lo8 (crcS l.flatten)), (lo8 ((crcS l.flatten) >>> 8)), (lo8 ((crcS l.flatten) >>> 16)), (lo8 ((crcS l.flatten) >>> 24))])) rfl ?_
  have hH10 : Has E w8 [R] := (hH9.front 1 rfl).first 1 rfl
  exact ⟨rfl, hH10⟩
set_option maxHeartbeats 4000000 in
theorem seal_c {E w : World} {R : List Hp} (hH : Has E w [R]) (hg : CellsAt R 1 0 nibV) {v : Value} {l : List (List UInt8)} (hv : Sl R 1 v l.length (l.map sV)) (hn : l.length ≤ 1000000) (hl : l.flatten.length ≤ 1000000000) :
    Calls Tryz.prog 123 #[v] w fun e w' => e = .returned (S (sealS l.flatten)) ∧ Has E w' [R] := by
  refine c_enter (args := [v]) Tryz.func123 rfl Tryz.ntmps123 (by simp) ?_
  refine wp_seq_k fun K1 hK1 => ?_
  refine c_region ?_
  refine s_op (o_assign (v := (S ([] : List UInt8))) rfl ?_)
  refine s_nil ?_
  refine t_norm (hK1 _ _ ?_)
  refine wp_seq_k fun K2 hK2 => ?_
  refine c_region ?_
  refine s_op (o_move (v := v) rfl ?_)
  refine s_op (o_callf (vs := #[v, (S ([] : List UInt8))]) ca108 rfl (args2 rfl rfl) (join_c hH.all (hv.mono (seg_sub 0 rfl)) hn hl) ?_)
  rintro _ w5 ⟨rfl, hX3⟩
  refine ⟨_, rfl, ?_⟩
  have hH4 := hX3.of_all
  refine s_op (o_move (v := v) rfl ?_)
  refine s_op (o_callf (vs := #[v]) ca143 rfl (args1 rfl) (laid_c hH4.all (hg.mono (seg_sub 0 rfl)) (hv.mono (seg_sub 0 rfl)) (fun x hx => by have := flat_le hx; omega)) ?_)
  rintro _ w8 ⟨rfl, hX6⟩
  refine ⟨_, rfl, ?_⟩
  have hH7 := hX6.of_all
  refine s_op (o_sadd rfl rfl (by rw [laidS_len]; omega) ?_)
  refine s_op (o_assign (v := (S (l.flatten ++ (laidS (crcS l.flatten))))) rfl ?_)
  refine s_nil ?_
  refine t_norm (hK2 _ _ ?_)
  refine wp_ret ?_
  refine c_ret1 Tryz.results123  (v := (S (l.flatten ++ (laidS (crcS l.flatten))))) rfl ?_
  exact ⟨rfl, hH7⟩
end Go.Q
namespace Go.Q
open Go.Proofs
set_option linter.unusedVariables false
set_option maxRecDepth 100000
attribute [local irreducible] wpList OK Code.wp
set_option maxHeartbeats 4000000 in
theorem short_c {E w : World} {R : List Hp} {s : Bs}  (hH : Has E w [R]) (hl : s.length ≤ 255) :
    Calls Tryz.prog 122 #[(S s)] w fun e w' => e = .returned (S (shortB s)) ∧ Has E w' [R] := by
  refine c_enter (args := [(S s)]) Tryz.func122 rfl Tryz.ntmps122 (by simp) ?_
  refine wp_seq_k fun K1 hK1 => ?_
  refine c_region ?_
  refine s_op (o_assign (v := (S ([] : List UInt8))) rfl ?_)
  refine s_nil ?_
  refine t_norm (hK1 _ _ ?_)
  refine wp_seq_k fun K2 hK2 => ?_
  refine c_region ?_
  refine s_op (o_move (v := (S s)) rfl ?_)
  refine s_op (o_slen Tryz.underlying9 rfl ?_)
  refine s_op (o_buildSlice (ps := #[(0, (.int .i64 (s.length : Int)))]) (cells := #[(.int .i64 (s.length : Int))]) Tryz.underlying40 ti3 (by decide) (parts1 rfl) (by kernel_rfl) hH fun b3 w4 hH5 => ?_)
  refine s_op (o_callf (vs := #[(.int .i64 1), (.slice (some ⟨b3, 0, none⟩) 1 1)]) ca121 rfl (args2 rfl rfl) (put_c hH5.all 1 (l := [(s.length : Int)]) ((sl_lit (f := iV) (l := [(s.length : Int)]) rfl rfl (by simp)).mono (seg_sub 0 rfl)) (by simp)) ?_)
  rintro _ w8 ⟨rfl, hX6⟩
  refine ⟨_, rfl, ?_⟩
  have hH7 := hX6.of_all
  refine s_op (o_move (v := (S s)) rfl ?_)
  refine s_op (o_sadd rfl rfl (by rw [put1 (by omega), beFrom_length]; omega) ?_)
  refine s_op (o_assign (v := (S ((putS 1 [(s.length : Int)]) ++ s))) rfl ?_)
  refine s_nil ?_
  refine t_norm (hK2 _ _ ?_)
  refine wp_ret ?_
  refine c_ret1 Tryz.results122  (v := (S ((putS 1 [(s.length : Int)]) ++ s))) rfl ?_
  have q9 : (shortB s) = (putS 1 [(s.length : Int)]) ++ s := by unfold shortB; rw [put1 (by omega)]
  have hH10 : Has E w8 [R] := (hH7.front 1 rfl).first 1 rfl
  exact ⟨by rw [q9], hH10⟩
set_option maxHeartbeats 4000000 in
theorem plaid_c {E w : World} {R : List Hp} {no : Int} {gsn : Int} {v_l : Value} {l : List Cel}  (hH : Has E w [R]) (h_l : Sl R 2 v_l l.length (l.flatMap ceC)) (hg : CellsAt R 1 0 nibV) :
    Calls Tryz.prog 96 #[(.agg #[(.int .i64 no), (.int .i64 gsn), v_l])] w fun e w' => e = .returned (S (laidP no gsn l)) ∧ Has E w' [R] := by
  have hn_ := h_l.le
  refine c_enter (args := [(.agg #[(.int .i64 no), (.int .i64 gsn), v_l])]) Tryz.func96 rfl Tryz.ntmps96 (by simp) ?_
  refine wp_seq_k fun K1 hK1 => ?_
  refine c_region ?_
  refine s_op (o_box (cs := #[(.int .i64 no), (.int .i64 gsn), v_l]) rfl rfl hH fun b2 w3 hH4 => ?_)
  refine s_op (o_assign (v := (S ([] : List UInt8))) rfl ?_)
  refine s_nil ?_
  refine t_norm (hK1 _ _ ?_)
  refine wp_seq_k fun K5 hK5 => ?_
  refine wp_seq_k fun K6 hK6 => ?_
  refine c_region ?_
  refine s_op (o_loadN (cs := [(.int .i64 no), (.int .i64 gsn), v_l]) Tryz.underlying36 rfl ti36 rfl hH4 (seg_sub 0 rfl) (CellsAt.one rfl) ?_)
  refine s_op (o_callf (vs := #[(.agg #[(.int .i64 no), (.int .i64 gsn), v_l])]) ca78 rfl (args1 rfl) (pright_c (no := no) (gsn := gsn) (l := l) hH4.all (h_l.mono (seg_sub 1 rfl))) ?_)
  rintro _ w9 ⟨rfl, hX7⟩
  refine ⟨_, rfl, ?_⟩
  have hH8 := hX7.of_all
  refine s_op (o_not rfl ?_)
  refine s_nil ?_
  refine t_norm (hK6 _ _ ?_)
  refine c_condb rfl (fun h10 => ?_) (fun h10 => ?_)
  · -- !(pageR no gsn l)
    have h10_n : (pageR no gsn l) = false := by simpa using h10
    refine wp_seq_k fun K11 hK11 => ?_
    refine c_region ?_
    refine s_op (o_assign (v := (S ([] : List UInt8))) rfl ?_)
    refine s_nil ?_
    refine t_norm (hK11 _ _ ?_)
    refine wp_ret ?_
    refine t_ret (c_ret1 Tryz.results96  (v := (S ([] : List UInt8))) rfl ?_)
    have hE_ := laidP_no (no := no) (gsn := gsn) (l := l) (by first | (simpa using h10) | (simpa using h10_n))
    have q12 : (laidP no gsn l) = ([] : List UInt8) := by exact hE_
    have hH13 : Has E w9 [R] := (hH8.front 1 rfl).first 1 rfl
    exact ⟨by rw [q12], hH13⟩
  · -- not: !(pageR no gsn l)
    have h10_n : (pageR no gsn l) = true := by simpa using h10
    have hR_ : pageR no gsn l = true := by simpa using h10
    have hP_ := pageR_iff.1 hR_
    have hCe_ := cellsR_iff.1 hP_.2
    have hB_ := bodyB_len hR_
    have hu_ : putS 1 [no] ++ putS 8 [gsn] ++ putS 1 [((l.length : Nat) : Int)] = headB no gsn l.length := by rw [put1 (by omega), put8 (by omega), put1 (by omega)]; rfl
    refine wp_skip ?_
    refine t_norm (hK5 _ _ ?_)
    refine wp_seq_k fun K14 hK14 => ?_
    refine c_region ?_
    refine s_op (o_alloc (cs := #[(.pointer none), (.slice none 0 0)]) ti145 rfl hH8 fun b15 w16 hH17 => ?_)
    refine s_nil ?_
    refine t_norm (hK14 _ _ ?_)
    refine wp_seq_k fun K18 hK18 => ?_
    refine c_flow4 [[Hp.one b15 (.cells #[(.pointer none), (.slice none 0 0)] 145 (0, 0))], [Hp.one b2 (.cells #[(.int .i64 no), (.int .i64 gsn), v_l] 36 (0, 0))], R] (fun i_ => match i_ with | _ => []) (fun i_ v_ h_ m_ => match i_ with | 0 => v_ = (.pointer (some ⟨b2, 0, none⟩)) ∧ h_ = [] | 1 => v_ = (.int .i64 no) ∧ h_ = [] | 2 => ∃ (b19 : Nat), v_ = (.slice (some ⟨b19, 0, none⟩) 1 1) ∧ h_ = [Hp.one b19 (.cells #[(.int .i64 no)] 3 (0, 0))] | 3 => v_ = (S (putS 1 [no])) ∧ h_ = [] | 4 => v_ = (.pointer (some ⟨b2, 1, none⟩)) ∧ h_ = [] | 5 => v_ = (.int .i64 gsn) ∧ h_ = [] | 6 => ∃ (b25 : Nat), v_ = (.slice (some ⟨b25, 0, none⟩) 1 1) ∧ h_ = [Hp.one b25 (.cells #[(.int .i64 gsn)] 3 (0, 0))] | 7 => v_ = (S (putS 8 [gsn])) ∧ h_ = [] | 8 => v_ = (S ((putS 1 [no]) ++ (putS 8 [gsn]))) ∧ h_ = [] | 9 => v_ = (.pointer (some ⟨b2, 2, none⟩)) ∧ h_ = [] | 10 => v_ = v_l ∧ h_ = [] | 11 => v_ = (.int .i64 ((l.length : Nat) : Int)) ∧ h_ = [] | 12 => ∃ (b31 : Nat), v_ = (.slice (some ⟨b31, 0, none⟩) 1 1) ∧ h_ = [Hp.one b31 (.cells #[(.int .i64 ((l.length : Nat) : Int))] 3 (0, 0))] | 13 => v_ = (S (putS 1 [((l.length : Nat) : Int)])) ∧ h_ = [] | _ => True) mixed 14 (by kernel_rfl) (by decide) (by kernel_rfl) (flow_has (cs := []) hH17 rfl) ?_ ?_
    · intro i_ o_ him_ ho_ r' w' G hs_ ht
      match i_, ho_, him_ with
      | 0, ho_, him_ =>
        obtain rfl := Option.some.inj ho_
        have e1 : r' 1 = (.pointer (some ⟨b2, 0, none⟩)) := ht.was 1 (by kernel_rfl)
        have hG := ht.has.drop
        refine GOK.free rfl ?_
        refine o_fieldAddr (k := 0) (fun _ => by kernel_rfl) e1 ?_
        exact ⟨_, ⟨rfl, rfl⟩, hG⟩
      | 1, ho_, him_ =>
        obtain rfl := Option.some.inj ho_
        obtain ⟨e9, eh0⟩ := (ht.done 0 _ rfl rfl).1
        have hG := ht.has.drop
        refine GOK.free rfl ?_
        refine o_load1 (v := (.int .i64 no)) Tryz.underlying3 rfl e9 hG (ht.fr [Hp.one b2 (.cells #[(.int .i64 no), (.int .i64 gsn), v_l] 36 (0, 0))] (by simp)) (CellsAt.one rfl) ?_
        exact ⟨_, ⟨rfl, rfl⟩, hG⟩
      | 2, ho_, him_ =>
        obtain rfl := Option.some.inj ho_
        obtain ⟨e10, eh1⟩ := (ht.done 1 _ rfl rfl).1
        have hG := ht.has.drop
        refine GOK.free rfl ?_
        refine o_buildSlice (ps := #[(0, (.int .i64 no))]) (cells := #[(.int .i64 no)]) Tryz.underlying40 ti3 (by decide) (parts1 e10) (by kernel_rfl) hG fun b19 w20 hH21 => ?_
        exact ⟨_, ⟨b19, rfl, rfl⟩, hH21⟩
      | 3, ho_, him_ =>
        obtain rfl := Option.some.inj ho_
        obtain ⟨b19, e11, eh2⟩ := (ht.done 2 _ rfl rfl).1
        have hG := ht.has.drop
        refine GOK.free rfl ?_
        refine o_callf (vs := #[(.int .i64 1), (.slice (some ⟨b19, 0, none⟩) 1 1)]) ca121 rfl (args2 rfl e11) (put_c hG.all 1 (l := [no]) ((sl_lit (f := iV) (l := [no]) rfl rfl (by simp)).mono (eh2 ▸ (ht.done 2 _ rfl rfl).2)) (by simp)) ?_
        rintro _ w24 ⟨rfl, hX22⟩
        refine ⟨_, rfl, ?_⟩
        have hH23 := hX22.of_all
        exact ⟨_, ⟨rfl, rfl⟩, hH23⟩
      | 4, ho_, him_ =>
        obtain rfl := Option.some.inj ho_
        have e1 : r' 1 = (.pointer (some ⟨b2, 0, none⟩)) := ht.was 1 (by kernel_rfl)
        have hG := ht.has.drop
        refine GOK.free rfl ?_
        refine o_fieldAddr (k := 1) (fun _ => by kernel_rfl) e1 ?_
        exact ⟨_, ⟨rfl, rfl⟩, hG⟩
      | 5, ho_, him_ =>
        obtain rfl := Option.some.inj ho_
        obtain ⟨e13, eh4⟩ := (ht.done 4 _ rfl rfl).1
        have hG := ht.has.drop
        refine GOK.free rfl ?_
        refine o_load1 (v := (.int .i64 gsn)) Tryz.underlying3 rfl e13 hG (ht.fr [Hp.one b2 (.cells #[(.int .i64 no), (.int .i64 gsn), v_l] 36 (0, 0))] (by simp)) (CellsAt.one rfl) ?_
        exact ⟨_, ⟨rfl, rfl⟩, hG⟩
      | 6, ho_, him_ =>
        obtain rfl := Option.some.inj ho_
        obtain ⟨e14, eh5⟩ := (ht.done 5 _ rfl rfl).1
        have hG := ht.has.drop
        refine GOK.free rfl ?_
        refine o_buildSlice (ps := #[(0, (.int .i64 gsn))]) (cells := #[(.int .i64 gsn)]) Tryz.underlying40 ti3 (by decide) (parts1 e14) (by kernel_rfl) hG fun b25 w26 hH27 => ?_
        exact ⟨_, ⟨b25, rfl, rfl⟩, hH27⟩
      | 7, ho_, him_ =>
        obtain rfl := Option.some.inj ho_
        obtain ⟨b19, e11, eh2⟩ := (ht.done 2 _ rfl rfl).1
        obtain ⟨b25, e15, eh6⟩ := (ht.done 6 _ rfl rfl).1
        have hG := ht.has.drop
        refine GOK.free rfl ?_
        refine o_callf (vs := #[(.int .i64 8), (.slice (some ⟨b25, 0, none⟩) 1 1)]) ca121 rfl (args2 rfl e15) (put_c hG.all 8 (l := [gsn]) ((sl_lit (f := iV) (l := [gsn]) rfl rfl (by simp)).mono (eh6 ▸ (ht.done 6 _ rfl rfl).2)) (by simp)) ?_
        rintro _ w30 ⟨rfl, hX28⟩
        refine ⟨_, rfl, ?_⟩
        have hH29 := hX28.of_all
        exact ⟨_, ⟨rfl, rfl⟩, hH29⟩
      | 8, ho_, him_ =>
        obtain rfl := Option.some.inj ho_
        obtain ⟨b19, e11, eh2⟩ := (ht.done 2 _ rfl rfl).1
        obtain ⟨e12, eh3⟩ := (ht.done 3 _ rfl rfl).1
        obtain ⟨b25, e15, eh6⟩ := (ht.done 6 _ rfl rfl).1
        obtain ⟨e16, eh7⟩ := (ht.done 7 _ rfl rfl).1
        have hG := ht.has.drop
        refine GOK.free rfl ?_
        refine o_sadd e12 e16 (by first | (rw [put1 (by omega), put8 (by omega)]; simp only [beFrom_length, List.length_append]; omega) | (rw [put1 (by omega), put8 (by omega), put1 (by omega)]; simp only [beFrom_length, List.length_append]; omega) | (simp only [List.length_append, shortB_len]; omega)) ?_
        exact ⟨_, ⟨rfl, rfl⟩, hG⟩
      | 9, ho_, him_ =>
        obtain rfl := Option.some.inj ho_
        have e1 : r' 1 = (.pointer (some ⟨b2, 0, none⟩)) := ht.was 1 (by kernel_rfl)
        have hG := ht.has.drop
        refine GOK.free rfl ?_
        refine o_fieldAddr (k := 2) (fun _ => by kernel_rfl) e1 ?_
        exact ⟨_, ⟨rfl, rfl⟩, hG⟩
      | 10, ho_, him_ =>
        obtain rfl := Option.some.inj ho_
        obtain ⟨e18, eh9⟩ := (ht.done 9 _ rfl rfl).1
        have hG := ht.has.drop
        refine GOK.free rfl ?_
        refine o_load1 (v := v_l) Tryz.underlying34 rfl e18 hG (ht.fr [Hp.one b2 (.cells #[(.int .i64 no), (.int .i64 gsn), v_l] 36 (0, 0))] (by simp)) (CellsAt.one rfl) ?_
        exact ⟨_, ⟨rfl, rfl⟩, hG⟩
      | 11, ho_, him_ =>
        obtain rfl := Option.some.inj ho_
        obtain ⟨e19, eh10⟩ := (ht.done 10 _ rfl rfl).1
        have hG := ht.has.drop
        refine GOK.free rfl ?_
        refine o_lenS Tryz.underlying34 e19 h_l ?_
        exact ⟨_, ⟨rfl, rfl⟩, hG⟩
      | 12, ho_, him_ =>
        obtain rfl := Option.some.inj ho_
        obtain ⟨e20, eh11⟩ := (ht.done 11 _ rfl rfl).1
        have hG := ht.has.drop
        refine GOK.free rfl ?_
        refine o_buildSlice (ps := #[(0, (.int .i64 ((l.length : Nat) : Int)))]) (cells := #[(.int .i64 ((l.length : Nat) : Int))]) Tryz.underlying40 ti3 (by decide) (parts1 e20) (by kernel_rfl) hG fun b31 w32 hH33 => ?_
        exact ⟨_, ⟨b31, rfl, rfl⟩, hH33⟩
      | 13, ho_, him_ =>
        obtain rfl := Option.some.inj ho_
        obtain ⟨b19, e11, eh2⟩ := (ht.done 2 _ rfl rfl).1
        obtain ⟨b25, e15, eh6⟩ := (ht.done 6 _ rfl rfl).1
        obtain ⟨b31, e21, eh12⟩ := (ht.done 12 _ rfl rfl).1
        have hG := ht.has.drop
        refine GOK.free rfl ?_
        refine o_callf (vs := #[(.int .i64 1), (.slice (some ⟨b31, 0, none⟩) 1 1)]) ca121 rfl (args2 rfl e21) (put_c hG.all 1 (l := [((l.length : Nat) : Int)]) ((sl_lit (f := iV) (l := [((l.length : Nat) : Int)]) rfl rfl (by simp)).mono (eh12 ▸ (ht.done 12 _ rfl rfl).2)) (by simp)) ?_
        rintro _ w36 ⟨rfl, hX34⟩
        refine ⟨_, rfl, ?_⟩
        have hH35 := hX34.of_all
        exact ⟨_, ⟨rfl, rfl⟩, hH35⟩
      | i_ + 14, ho_, him_ => exact absurd him_ (by omega)
    · intro vs37 hs38 w39 hT40 hC_ hH41
      obtain ⟨e0_, eh0_⟩ := hT40 0 _ (by decide) rfl
      obtain ⟨e1_, eh1_⟩ := hT40 1 _ (by decide) rfl
      obtain ⟨b19, e2_, eh2_⟩ := hT40 2 _ (by decide) rfl
      obtain ⟨e3_, eh3_⟩ := hT40 3 _ (by decide) rfl
      obtain ⟨e4_, eh4_⟩ := hT40 4 _ (by decide) rfl
      obtain ⟨e5_, eh5_⟩ := hT40 5 _ (by decide) rfl
      obtain ⟨b25, e6_, eh6_⟩ := hT40 6 _ (by decide) rfl
      obtain ⟨e7_, eh7_⟩ := hT40 7 _ (by decide) rfl
      obtain ⟨e8_, eh8_⟩ := hT40 8 _ (by decide) rfl
      obtain ⟨e9_, eh9_⟩ := hT40 9 _ (by decide) rfl
      obtain ⟨e10_, eh10_⟩ := hT40 10 _ (by decide) rfl
      obtain ⟨e11_, eh11_⟩ := hT40 11 _ (by decide) rfl
      obtain ⟨b31, e12_, eh12_⟩ := hT40 12 _ (by decide) rfl
      obtain ⟨e13_, eh13_⟩ := hT40 13 _ (by decide) rfl
      have hH42 : Has E w39 ([[Hp.one b15 (.cells #[(.pointer none), (.slice none 0 0)] 145 (0, 0))], [Hp.one b2 (.cells #[(.int .i64 no), (.int .i64 gsn), v_l] 36 (0, 0))], R] ++ [[Hp.one b19 (.cells #[(.int .i64 no)] 3 (0, 0))], [Hp.one b25 (.cells #[(.int .i64 gsn)] 3 (0, 0))], [Hp.one b31 (.cells #[(.int .i64 ((l.length : Nat) : Int))] 3 (0, 0))]]) := flow_back (cs := [[Hp.one b19 (.cells #[(.int .i64 no)] 3 (0, 0))], [Hp.one b25 (.cells #[(.int .i64 gsn)] 3 (0, 0))], [Hp.one b31 (.cells #[(.int .i64 ((l.length : Nat) : Int))] 3 (0, 0))]]) hH41 (by show (hs38 0 ++ (hs38 1 ++ (hs38 2 ++ (hs38 3 ++ (hs38 4 ++ (hs38 5 ++ (hs38 6 ++ (hs38 7 ++ (hs38 8 ++ (hs38 9 ++ (hs38 10 ++ (hs38 11 ++ (hs38 12 ++ (hs38 13 ++ (hs38 14 ++ (hs38 15 ++ [])))))))))))))))) = _; rw [eh0_, eh1_, eh2_, eh3_, eh4_, eh5_, eh6_, eh7_, eh8_, eh9_, eh10_, eh11_, eh12_, eh13_, hC_ 14 (by decide) (by decide), hC_ 15 (by decide) (by decide)]; rfl)
      generalize hr44 : puts vs37 _ 0 _ = r43
      have e45_0 : r43 0 = (.agg #[(.int .i64 no), (.int .i64 gsn), v_l]) := by rw [← hr44]; exact rfl
      have e45_1 : r43 1 = (.pointer (some ⟨b2, 0, none⟩)) := by rw [← hr44]; exact rfl
      have e45_2 : r43 2 = (S ([] : List UInt8)) := by rw [← hr44]; exact rfl
      have e45_3 : r43 3 = (.pointer (some ⟨b15, 0, none⟩)) := by rw [← hr44]; exact rfl
      have e45_8 : r43 8 = (.bool (!(pageR no gsn l))) := by rw [← hr44]; exact rfl
      have e45_17 : r43 17 = (S ((putS 1 [no]) ++ (putS 8 [gsn]))) := by rw [← hr44]; exact e8_
      have e45_22 : r43 22 = (S (putS 1 [((l.length : Nat) : Int)])) := by rw [← hr44]; exact e13_
      refine s_op (o_sadd e45_17 e45_22 (by first | (rw [put1 (by omega), put8 (by omega)]; simp only [beFrom_length, List.length_append]; omega) | (rw [put1 (by omega), put8 (by omega), put1 (by omega)]; simp only [beFrom_length, List.length_append]; omega) | (simp only [List.length_append, shortB_len]; omega)) ?_)
      refine s_op (o_callf (vs := #[(.pointer (some ⟨b15, 0, none⟩)), (S (((putS 1 [no]) ++ (putS 8 [gsn])) ++ (putS 1 [((l.length : Nat) : Int)])))]) ca103 rfl (args2 e45_3 rfl) (bws hH42.all1 (Bld.new b15) (((putS 1 [no]) ++ (putS 8 [gsn])) ++ (putS 1 [((l.length : Nat) : Int)])) (by first | (rw [hu_, headB_len]; simp; done) | (rw [hu_, headB_len]; simp only [List.length_nil]; omega) | (simp only [List.length_append, shortB_len]; omega))) ?_)
      rintro _ w50 ⟨sg46, rfl, hB47, hX48⟩
      refine ⟨_, rfl, ?_⟩
      have hH49 : Has E w50 [sg46, [Hp.one b2 (.cells #[(.int .i64 no), (.int .i64 gsn), v_l] 36 (0, 0))], R, [Hp.one b19 (.cells #[(.int .i64 no)] 3 (0, 0))], [Hp.one b25 (.cells #[(.int .i64 gsn)] 3 (0, 0))], [Hp.one b31 (.cells #[(.int .i64 ((l.length : Nat) : Int))] 3 (0, 0))]] := hX48.of_all1
      refine s_nil ?_
      refine t_norm (hK18 _ _ ?_)
      refine wp_seq_k fun K51 hK51 => ?_
      refine wp_seq_k fun K52 hK52 => ?_
      refine c_region ?_
      refine s_op (o_fieldAddr (k := 2) (fun _ => by kernel_rfl) e45_1 ?_)
      refine s_op (o_load1 (v := v_l) Tryz.underlying34 rfl rfl hH49 (seg_sub 1 rfl) (CellsAt.one rfl) ?_)
      refine s_op (o_lenS Tryz.underlying34 rfl h_l ?_)
      refine s_op (o_move (v := (.int .i64 0)) rfl ?_)
      refine s_nil ?_
      refine t_norm (hK52 _ _ ?_)
      refine wp_block ?_
      let I54 : Nat → (Nat → Value) → World → Prop := fun n__ r__ w__ => ∃ (k : Nat) (sgB : List Hp) (acc : Bs), n__ = l.length - k ∧ Has E w__ [sgB, [Hp.one b2 (.cells #[(.int .i64 no), (.int .i64 gsn), v_l] 36 (0, 0))], R, [Hp.one b19 (.cells #[(.int .i64 no)] 3 (0, 0))], [Hp.one b25 (.cells #[(.int .i64 gsn)] 3 (0, 0))], [Hp.one b31 (.cells #[(.int .i64 ((l.length : Nat) : Int))] 3 (0, 0))]] ∧ (k ≤ l.length) ∧ (Bld b15 acc sgB) ∧ (acc = headB no gsn l.length ++ (l.take k).flatMap cellB) ∧ (acc.length ≤ 10 + 26 * k) ∧ r__ 0 = (.agg #[(.int .i64 no), (.int .i64 gsn), v_l]) ∧ r__ 1 = (.pointer (some ⟨b2, 0, none⟩)) ∧ r__ 2 = (S ([] : List UInt8)) ∧ r__ 3 = (.pointer (some ⟨b15, 0, none⟩)) ∧ r__ 8 = (.bool (!(pageR no gsn l))) ∧ r__ 26 = v_l ∧ r__ 27 = (.int .i64 ((l.length : Nat) : Int)) ∧ r__ 28 = (.int .i64 (k : Int))
      refine c_loop I54 _ ⟨0, sg46, (([] : Bs) ++ (((putS 1 [no]) ++ (putS 8 [gsn])) ++ (putS 1 [((l.length : Nat) : Int)]))), rfl, hH49, Nat.zero_le _, hB47, (by rw [List.nil_append, hu_]; simp), (by rw [List.nil_append, hu_, headB_len]; omega), e45_0, e45_1, e45_2, e45_3, e45_8, rfl, rfl, rfl⟩ ?_
      rintro n_ r57 w55 ⟨k, sgB, acc, rfl, hH56, hk, hB, hacc, hal, e53_0, e53_1, e53_2, e53_3, e53_8, e53_26, e53_27, e53_28⟩
      refine wp_seq_k fun K58 hK58 => ?_
      refine c_region ?_
      refine s_op (o_lss (a := (k : Int)) (b := ((l.length : Nat) : Int)) e53_28 e53_27 ?_)
      refine s_nil ?_
      refine t_norm (hK58 _ _ ?_)
      refine wp_seq_k fun K59 hK59 => ?_
      refine c_cond rfl (fun h60 => ?_) (fun h60 => ?_)
      · -- (k : Int) < ((l.length : Nat) : Int)
        refine wp_skip ?_
        refine t_norm (hK59 _ _ ?_)
        refine wp_seq_k fun K61 hK61 => ?_
        refine wp_block ?_
        refine wp_seq_k fun K62 hK62 => ?_
        refine c_region ?_
        obtain ⟨x66, hx67⟩ : ∃ x_, l[((k : Int)).toNat]? = some x_ := get_some (by omega)
        refine s_op (o_indexF ceC_len Tryz.underlying34 ti70 e53_26 h_l rfl e53_28 (by omega) hx67 fun b63 o64 hc65 => ?_)
        have hcl_ := celOk_len (hCe_.1 _ (List.mem_of_getElem? hx67))
        refine s_op (o_loadN (cs := [(S x66.1), (S x66.2)]) Tryz.underlying70 rfl ti70 rfl hH56 (seg_sub 2 rfl) hc65 ?_)
        refine s_op (o_alloc (cs := #[(S ([] : List UInt8)), (S ([] : List UInt8))]) ti70 rfl hH56 fun b68 w69 hH70 => ?_)
        refine s_eff (o_storeN (vs := [(S x66.1), (S x66.2)]) (c' := #[(S x66.1), (S x66.2)]) ti70 rfl rfl rfl rfl (by intro u hu; simp only [List.mem_cons, List.not_mem_nil, or_false] at hu; rcases hu with rfl | rfl <;> first | rfl) (by simp) (by kernel_rfl) (hH70.front 0 rfl) fun w71 hH72 => ?_)
        refine s_nil ?_
        refine t_norm (hK62 _ _ ?_)
        refine Rest.region mixed (by kernel_rfl) ?_
        have hH73 : Has E { w71 with drawn := w71.drawn + 1 } [[Hp.one b68 (.cells #[(S x66.1), (S x66.2)] 70 (0, 0))], sgB, [Hp.one b2 (.cells #[(.int .i64 no), (.int .i64 gsn), v_l] 36 (0, 0))], R, [Hp.one b19 (.cells #[(.int .i64 no)] 3 (0, 0))], [Hp.one b25 (.cells #[(.int .i64 gsn)] 3 (0, 0))], [Hp.one b31 (.cells #[(.int .i64 ((l.length : Nat) : Int))] 3 (0, 0))]] := Has0.drew hH72 _
        refine Rest.phaseA (fun w_ => Has E w_ [[Hp.one b68 (.cells #[(S x66.1), (S x66.2)] 70 (0, 0))]]) 0 5 5 rfl (by decide) (by kernel_rfl) ?_
        refine a_op 0 rfl (by kernel_rfl) (fun w_ h_ => o_fieldAddr (k := 0) (fun _ => by kernel_rfl) rfl ⟨rfl, rfl⟩) ?_
        refine a_op 1 rfl (by kernel_rfl) (fun w_ h_ => o_load1 (v := (S x66.1)) Tryz.underlying9 rfl rfl h_ (seg_sub 0 rfl) (CellsAt.one rfl) ⟨rfl, rfl⟩) ?_
        refine a_op 3 rfl (by kernel_rfl) (fun w_ h_ => o_fieldAddr (k := 1) (fun _ => by kernel_rfl) rfl ⟨rfl, rfl⟩) ?_
        refine a_op 4 rfl (by kernel_rfl) (fun w_ h_ => o_load1 (v := (S x66.2)) Tryz.underlying9 rfl rfl h_ (seg_sub 0 rfl) (CellsAt.one rfl) ⟨rfl, rfl⟩) ?_
        have hH74 : Has E { w71 with drawn := w71.drawn + 1 } [[Hp.one b68 (.cells #[(S x66.1), (S x66.2)] 70 (0, 0))]] := hH73.first 1 rfl
        refine a_w 2 rfl (by kernel_rfl) hH74 (o_callf (vs := #[(S x66.1)]) ca122 rfl (args1 rfl) (short_c (s := x66.1) hH73.all (by first | omega | (simp only []; omega) | (simp; done) | (simp; omega))) ?_)
        rintro _ w77 ⟨rfl, hX75⟩
        refine ⟨_, rfl, ?_⟩
        have hH76 := hX75.of_all
        have hH78 : Has E w77 [[Hp.one b68 (.cells #[(S x66.1), (S x66.2)] 70 (0, 0))]] := hH76.first 1 rfl
        refine a_done (by kernel_rfl) hH78 ?_
        refine r_op 5 rfl (by kernel_rfl) (o_callf (vs := #[(S x66.2)]) ca122 rfl (args1 rfl) (short_c (s := x66.2) hH76.all (by first | omega | (simp only []; omega) | (simp; done) | (simp; omega))) ?_)
        rintro _ w81 ⟨rfl, hX79⟩
        refine ⟨_, rfl, ?_⟩
        have hH80 := hX79.of_all
        refine r_op 6 rfl (by kernel_rfl) (o_sadd rfl rfl (by first | (rw [put1 (by omega), put8 (by omega)]; simp only [beFrom_length, List.length_append]; omega) | (rw [put1 (by omega), put8 (by omega), put1 (by omega)]; simp only [beFrom_length, List.length_append]; omega) | (simp only [List.length_append, shortB_len]; omega)) ?_)
        refine r_op 7 rfl (by kernel_rfl) (o_callf (vs := #[(.pointer (some ⟨b15, 0, none⟩)), (S ((shortB x66.1) ++ (shortB x66.2)))]) ca103 rfl (args2 e53_3 rfl) (bws (hH80.front 1 rfl).all1 hB ((shortB x66.1) ++ (shortB x66.2)) (by first | (rw [hu_, headB_len]; simp; done) | (rw [hu_, headB_len]; simp only [List.length_nil]; omega) | (simp only [List.length_append, shortB_len]; omega))) ?_)
        rintro _ w86 ⟨sg82, rfl, hB83, hX84⟩
        refine ⟨_, rfl, ?_⟩
        have hH85 : Has E w86 [sg82, [Hp.one b68 (.cells #[(S x66.1), (S x66.2)] 70 (0, 0))], [Hp.one b2 (.cells #[(.int .i64 no), (.int .i64 gsn), v_l] 36 (0, 0))], R, [Hp.one b19 (.cells #[(.int .i64 no)] 3 (0, 0))], [Hp.one b25 (.cells #[(.int .i64 gsn)] 3 (0, 0))], [Hp.one b31 (.cells #[(.int .i64 ((l.length : Nat) : Int))] 3 (0, 0))]] := hX84.of_all1
        refine Rest.done (by kernel_rfl) ?_
        refine b_norm ?_
        refine t_norm (hK61 _ _ ?_)
        refine c_region ?_
        refine s_op (o_add (a := (k : Int)) (b := 1) e53_28 rfl (w64 (by omega) (by omega)) ?_)
        refine s_op (o_move (v := (.int .i64 ((k : Int) + 1))) rfl ?_)
        refine s_nil ?_
        have hH87 : Has E w86 [sg82, [Hp.one b2 (.cells #[(.int .i64 no), (.int .i64 gsn), v_l] 36 (0, 0))], R, [Hp.one b19 (.cells #[(.int .i64 no)] 3 (0, 0))], [Hp.one b25 (.cells #[(.int .i64 gsn)] 3 (0, 0))], [Hp.one b31 (.cells #[(.int .i64 ((l.length : Nat) : Int))] 3 (0, 0))]] := Has.pick hH85 [0, 1, 1, 1, 1, 1] (by kernel_rfl)
        refine t_norm ⟨l.length - (k + 1), _, rfl, ?_, ?_⟩
        · omega
        · exact ⟨(k + 1), sg82, (acc ++ ((shortB x66.1) ++ (shortB x66.2))), rfl, hH87, (by omega), (hB83), (by (have h_ := cell_prog hacc (show l[k]? = some _ from hx67)); first | exact h_ | (simpa [List.append_assoc] using h_)), (by (have h1_ := celOk_len (hCe_.1 _ (List.mem_of_getElem? hx67))); simp only [List.length_append, shortB_len]; omega), e53_0, e53_1, e53_2, e53_3, e53_8, e53_26, e53_27, rfl⟩
      · -- not: (k : Int) < ((l.length : Nat) : Int)
        refine wp_exit ?_
        refine t_exit (t_exit (x_in (?_)))
        refine t_norm (hK51 _ _ ?_)
        refine wp_seq_k fun K88 hK88 => ?_
        refine c_region ?_
        refine s_op (o_callf (vs := #[(.pointer (some ⟨b15, 0, none⟩))]) ca104 rfl (args1 e53_3) (bstrK hH56.all1 hB) ?_)
        rintro _ w94 ⟨a89, p90, c91, rfl, hX92⟩
        refine ⟨_, rfl, ?_⟩
        have hH93 : Has E w94 [[Hp.one b15 (.cells #[a89, (.slice p90 acc.length c91)] 145 (0, 0))], [Hp.one b2 (.cells #[(.int .i64 no), (.int .i64 gsn), v_l] 36 (0, 0))], R, [Hp.one b19 (.cells #[(.int .i64 no)] 3 (0, 0))], [Hp.one b25 (.cells #[(.int .i64 gsn)] 3 (0, 0))], [Hp.one b31 (.cells #[(.int .i64 ((l.length : Nat) : Int))] 3 (0, 0))]] := hX92.of_all1
        refine s_op (o_callf (vs := #[(.pointer (some ⟨b15, 0, none⟩))]) ca120 rfl (args1 e53_3) (blenb hH93.all1) ?_)
        rintro _ w97 ⟨rfl, hX95⟩
        refine ⟨_, rfl, ?_⟩
        have hH96 : Has E w97 [[Hp.one b15 (.cells #[a89, (.slice p90 acc.length c91)] 145 (0, 0))], [Hp.one b2 (.cells #[(.int .i64 no), (.int .i64 gsn), v_l] 36 (0, 0))], R, [Hp.one b19 (.cells #[(.int .i64 no)] 3 (0, 0))], [Hp.one b25 (.cells #[(.int .i64 gsn)] 3 (0, 0))], [Hp.one b31 (.cells #[(.int .i64 ((l.length : Nat) : Int))] 3 (0, 0))]] := hX95.of_all1
        refine s_op (o_sub (a := 252) (b := (acc.length : Int)) rfl rfl (w64 (by omega) (by omega)) ?_)
        obtain ⟨n98, hn98⟩ : ∃ n_ : Nat, 252 - (acc.length : Int) = (n_ : Int) := ⟨(252 - (acc.length : Int)).toNat, by omega⟩
        refine s_op (o_callf (vs := #[(S [0]), (.int .i64 (252 - (acc.length : Int)))]) ca95 rfl (args2 rfl rfl) ((by rw [hn98]; exact repeat_c hH96.all n98 (by omega))) ?_)
        rintro _ w101 ⟨rfl, hX99⟩
        refine ⟨_, rfl, ?_⟩
        have hH100 := hX99.of_all
        refine s_op (o_buildSlice (ps := #[(0, (S acc)), (1, (S (List.replicate n98 0)))]) (cells := #[(S acc), (S (List.replicate n98 0))]) Tryz.underlying102 ti9 (by decide) (parts2 rfl rfl) (by kernel_rfl) hH100 fun b102 w103 hH104 => ?_)
        refine s_op (o_callf (vs := #[(.slice (some ⟨b102, 0, none⟩) 2 2)]) ca123 rfl (args1 rfl) (seal_c hH104.all (hg.mono (seg_sub 3 rfl)) ((sl_lit (f := sV) (l := [acc, (List.replicate n98 0)]) rfl rfl (by simp)).mono (seg_sub 0 rfl)) (by simp) (by simp only [List.flatten_cons, List.flatten_nil, List.length_append, List.length_replicate, List.length_nil]; omega)) ?_)
        rintro _ w107 ⟨rfl, hX105⟩
        refine ⟨_, rfl, ?_⟩
        have hH106 := hX105.of_all
        refine s_op (o_assign (v := (S (sealS [acc, (List.replicate n98 0)].flatten))) rfl ?_)
        refine s_nil ?_
        refine t_norm (hK88 _ _ ?_)
        refine wp_ret ?_
        refine c_ret1 Tryz.results96  (v := (S (sealS [acc, (List.replicate n98 0)].flatten))) rfl ?_
        have e_ : k = l.length := by omega
        rw [e_, List.take_length] at hacc
        have hb_ : acc = bodyB no gsn l := hacc
        have hE_ : laidP no gsn l = sealS [acc, List.replicate n98 0].flatten := by unfold laidP; rw [if_pos hR_]; unfold fullB; rw [← hb_, show 252 - acc.length = n98 from by omega]; simp
        have q108 : (laidP no gsn l) = (sealS [acc, (List.replicate n98 0)].flatten) := by exact hE_
        have hH109 : Has E w107 [R] := (hH106.front 3 rfl).first 1 rfl
        exact ⟨by rw [q108], hH109⟩
set_option maxHeartbeats 4000000 in
theorem text_c {E w : World} {R : List Hp} {s : Bs}  (hH : Has E w [R]) (hs : s.length ≤ 1000000) :
    Calls Tryz.prog 107 #[(S s)] w fun e w' => e = .returned (.tuple #[(S ((textS s).1)), (S ((textS s).2.1)), (.bool ((textS s).2.2))]) ∧ Has E w' [R] := by
  have hto_ := take_one s
  refine c_enter (args := [(S s)]) Tryz.func107 rfl Tryz.ntmps107 (by simp) ?_
  refine wp_seq_k fun K1 hK1 => ?_
  refine c_region ?_
  refine s_op (o_assign (v := (S ([] : List UInt8))) rfl ?_)
  refine s_op (o_assign (v := (S ([] : List UInt8))) rfl ?_)
  refine s_op (o_assign (v := (.bool false)) rfl ?_)
  refine s_nil ?_
  refine t_norm (hK1 _ _ ?_)
  refine wp_seq_k fun K2 hK2 => ?_
  refine c_region ?_
  refine s_op (o_move (v := (S s)) rfl ?_)
  refine s_op (o_callf (vs := #[(S s), (.int .i64 1)]) ca106 rfl (args2 rfl rfl) (take_c hH.all 1 s (by omega)) ?_)
  rintro _ w5 ⟨rfl, hX3⟩
  refine ⟨_, rfl, ?_⟩
  have hH4 := hX3.of_all
  refine s_op (o_move (v := (.tuple #[(.int .i64 ((takeS s 1).1)), (S ((takeS s 1).2.1)), (.bool ((takeS s 1).2.2))])) rfl ?_)
  refine s_op (o_extract (v := (.int .i64 ((takeS s 1).1))) rfl rfl ?_)
  refine s_op (o_extract (v := (S ((takeS s 1).2.1))) rfl rfl ?_)
  refine s_op (o_extract (v := (.bool ((takeS s 1).2.2))) rfl rfl ?_)
  refine s_op (o_assign (v := (.int .i64 ((takeS s 1).1))) rfl ?_)
  refine s_op (o_assign (v := (S ((takeS s 1).2.1))) rfl ?_)
  refine s_op (o_assign (v := (.bool ((takeS s 1).2.2))) rfl ?_)
  refine s_nil ?_
  refine t_norm (hK2 _ _ ?_)
  refine wp_seq_k fun K6 hK6 => ?_
  refine wp_seq_k fun K7 hK7 => ?_
  refine c_region ?_
  refine s_op (o_move (v := (.bool ((takeS s 1).2.2))) rfl ?_)
  refine s_op (o_not rfl ?_)
  refine s_op (o_move (v := (.bool (!((takeS s 1).2.2)))) rfl ?_)
  rcases Bool.eq_false_or_eq_true (!((takeS s 1).2.2)) with h8 | h8
  · -- !((takeS s 1).2.2)
    have h8_n : ((takeS s 1).2.2) = false := by simpa using h8
    refine s_off (b' := true) 16 rfl (congrArg Value.bool h8) rfl ?_
    refine s_off (b' := true) 16 rfl (congrArg Value.bool h8) rfl ?_
    refine s_off (b' := true) 16 rfl (congrArg Value.bool h8) rfl ?_
    refine s_off (b' := true) 16 rfl (congrArg Value.bool h8) rfl ?_
    refine s_op (o_pick_t (u := (.bool true)) ((rfl : _ = _).trans (congrArg Value.bool h8)) rfl ?_)
    refine s_nil ?_
    refine t_norm (hK7 _ _ ?_)
    refine c_true rfl rfl ?_
    refine wp_seq_k fun K9 hK9 => ?_
    refine c_region ?_
    refine s_op (o_assign (v := (S ([] : List UInt8))) rfl ?_)
    refine s_op (o_assign (v := (S ([] : List UInt8))) rfl ?_)
    refine s_op (o_assign (v := (.bool false)) rfl ?_)
    refine s_nil ?_
    refine t_norm (hK9 _ _ ?_)
    refine wp_ret ?_
    refine t_ret (c_ret3 Tryz.results107  (v := (S ([] : List UInt8))) rfl (x := (S ([] : List UInt8))) rfl (y := (.bool false)) rfl ?_)
    have hE_ := text_no (s := s) (by first | exact .inl (by simpa using h8) | exact .inl (by simpa using h8_n) | exact .inr (by omega))
    have q10 : (textS s).1 = ([] : List UInt8) := by rw [hE_]
    have q11 : (textS s).2.1 = ([] : List UInt8) := by rw [hE_]
    have q12 : (textS s).2.2 = false := by rw [hE_]
    exact ⟨by rw [q10]; rw [q11]; rw [q12], hH4⟩
  · -- not: !((takeS s 1).2.2)
    have h8_n : ((takeS s 1).2.2) = true := by simpa using h8
    refine s_on 16 rfl (congrArg Value.bool h8) (o_move (v := (.int .i64 ((takeS s 1).1))) rfl ?_)
    refine s_on 16 rfl (congrArg Value.bool h8) (o_move (v := (S ((takeS s 1).2.1))) rfl ?_)
    refine s_on 16 rfl (congrArg Value.bool h8) (o_slen Tryz.underlying9 rfl ?_)
    refine s_on 16 rfl (congrArg Value.bool h8) (o_gtr (a := (takeS s 1).1) (b := (((takeS s 1).2.1).length : Int)) rfl rfl ?_)
    refine s_op (o_pick_f (u := (.bool (decide ((((takeS s 1).2.1).length : Int) < (takeS s 1).1)))) ((rfl : _ = _).trans (congrArg Value.bool h8)) rfl ?_)
    refine s_nil ?_
    refine t_norm (hK7 _ _ ?_)
    refine c_cond rfl (fun h13 => ?_) (fun h13 => ?_)
    · -- (((takeS s 1).2.1).length : Int) < (takeS s 1).1
      refine wp_seq_k fun K14 hK14 => ?_
      refine c_region ?_
      refine s_op (o_assign (v := (S ([] : List UInt8))) rfl ?_)
      refine s_op (o_assign (v := (S ([] : List UInt8))) rfl ?_)
      refine s_op (o_assign (v := (.bool false)) rfl ?_)
      refine s_nil ?_
      refine t_norm (hK14 _ _ ?_)
      refine wp_ret ?_
      refine t_ret (c_ret3 Tryz.results107  (v := (S ([] : List UInt8))) rfl (x := (S ([] : List UInt8))) rfl (y := (.bool false)) rfl ?_)
      have hE_ := text_no (s := s) (by first | exact .inl (by simpa using h8) | exact .inl (by simpa using h8_n) | exact .inl (by simpa using h13) | exact .inr (by omega))
      have q15 : (textS s).1 = ([] : List UInt8) := by rw [hE_]
      have q16 : (textS s).2.1 = ([] : List UInt8) := by rw [hE_]
      have q17 : (textS s).2.2 = false := by rw [hE_]
      exact ⟨by rw [q15]; rw [q16]; rw [q17], hH4⟩
    · -- not: (((takeS s 1).2.1).length : Int) < (takeS s 1).1
      refine wp_skip ?_
      refine t_norm (hK6 _ _ ?_)
      refine wp_seq_k fun K18 hK18 => ?_
      refine Rest.region mixed (by kernel_rfl) ?_
      have hH19 : Has E { w5 with drawn := w5.drawn + 1 } [R] := Has0.drew hH4 _
      refine Rest.phaseA (fun w_ => Has E w_ []) 0 7 7 rfl (by decide) (by kernel_rfl) ?_
      refine a_op 0 rfl (by kernel_rfl) (fun w_ h_ => o_move (v := (S ((takeS s 1).2.1))) rfl ⟨rfl, rfl⟩) ?_
      refine a_op 1 rfl (by kernel_rfl) (fun w_ h_ => o_move (v := (.int .i64 ((takeS s 1).1))) rfl ⟨rfl, rfl⟩) ?_
      refine a_op 2 rfl (by kernel_rfl) (fun w_ h_ => o_ssl_h Tryz.underlying9 rfl rfl (by omega) (by omega) ⟨rfl, rfl⟩) ?_
      refine a_op 3 rfl (by kernel_rfl) (fun w_ h_ => o_move (v := (S ((takeS s 1).2.1))) rfl ⟨rfl, rfl⟩) ?_
      refine a_op 4 rfl (by kernel_rfl) (fun w_ h_ => o_move (v := (.int .i64 ((takeS s 1).1))) rfl ⟨rfl, rfl⟩) ?_
      refine a_op 5 rfl (by kernel_rfl) (fun w_ h_ => o_ssl_l Tryz.underlying9 rfl rfl (by omega) (by omega) ⟨rfl, rfl⟩) ?_
      refine a_op 6 rfl (by kernel_rfl) (fun w_ h_ => o_assign (v := (S (((takeS s 1).2.1).take ((takeS s 1).1).toNat))) rfl ⟨rfl, rfl⟩) ?_
      have hH20 : Has E { w5 with drawn := w5.drawn + 1 } [] := hH19.first 0 rfl
      refine a_done (by kernel_rfl) hH20 ?_
      refine r_op 7 rfl (by kernel_rfl) (o_assign (v := (S (((takeS s 1).2.1).drop ((takeS s 1).1).toNat))) rfl ?_)
      refine r_op 8 rfl (by kernel_rfl) (o_assign (v := (.bool true)) rfl ?_)
      refine Rest.done (by kernel_rfl) ?_
      refine t_norm (hK18 _ _ ?_)
      refine wp_ret ?_
      refine c_ret3 Tryz.results107  (v := (S (((takeS s 1).2.1).take ((takeS s 1).1).toNat))) rfl (x := (S (((takeS s 1).2.1).drop ((takeS s 1).1).toNat))) rfl (y := (.bool true)) rfl ?_
      have hE_ := text_yes (s := s) (by first | (simpa using h8) | (simpa using h8_n) | (simpa using h13)) (by omega)
      have q21 : (textS s).1 = ((takeS s 1).2.1).take ((takeS s 1).1).toNat := by rw [hE_]
      have q22 : (textS s).2.1 = ((takeS s 1).2.1).drop ((takeS s 1).1).toNat := by rw [hE_]
      have q23 : (textS s).2.2 = true := by rw [hE_]
      exact ⟨by rw [q21]; rw [q22]; rw [q23], hH19⟩
end Go.Q
namespace Go.Q
open Go.Proofs
set_option linter.unusedVariables false
set_option maxRecDepth 100000
attribute [local irreducible] wpList OK Code.wp
set_option maxHeartbeats 4000000 in
theorem pread_c {E w : World} {R : List Hp} {s : Bs}  (hH : Has E w [R]) (hg : CellsAt R 1 0 nibV) :
    Calls Tryz.prog 66 #[(S s)] w fun e w' => ∃ (v1' : Value) (s2' : List Hp), e = .returned (.tuple #[(.agg #[(.int .i64 ((readP s).2.1)), (.int .i64 ((readP s).2.2.1)), v1']), (.bool ((readP s).1))]) ∧ (Own 70 2 v1' ((readP s).2.2.2).length (((readP s).2.2.2).flatMap ceC) s2') ∧ Has E w' [s2', R] := by
  have hr1_ := take_rest_le s 1
  have hr2_ := take_rest_le (takeS s 1).2.1 8
  have hr3_ := take_rest_le (takeS (takeS s 1).2.1 8).2.1 1
  have hto_ := take_one (takeS (takeS s 1).2.1 8).2.1
  have hto1_ := take_one s
  refine c_enter (args := [(S s)]) Tryz.func66 rfl Tryz.ntmps66 (by simp) ?_
  refine wp_seq_k fun K1 hK1 => ?_
  refine c_region ?_
  refine s_op (o_alloc (cs := #[(.int .i64 0), (.int .i64 0), (.slice none 0 0)]) ti36 rfl hH fun b2 w3 hH4 => ?_)
  refine s_op (o_assign (v := (.bool false)) rfl ?_)
  refine s_nil ?_
  refine t_norm (hK1 _ _ ?_)
  refine wp_seq_k fun K5 hK5 => ?_
  refine wp_seq_k fun K6 hK6 => ?_
  refine c_region ?_
  refine s_op (o_move (v := (S s)) rfl ?_)
  refine s_op (o_slen Tryz.underlying9 rfl ?_)
  refine s_op (o_neq (a := (s.length : Int)) (b := 256) rfl rfl ?_)
  refine s_nil ?_
  refine t_norm (hK6 _ _ ?_)
  refine c_cond rfl (fun h7 => ?_) (fun h7 => ?_)
  · -- (s.length : Int) ≠ 256
    refine wp_seq_k fun K8 hK8 => ?_
    refine c_region ?_
    refine s_op (o_sight (v := (.agg #[(.int .i64 0), (.int .i64 0), (.slice none 0 0)])) (fun _ => by kernel_rfl) ?_)
    refine s_eff (o_storeN (vs := [(.int .i64 0), (.int .i64 0), (.slice none 0 0)]) (c' := #[(.int .i64 0), (.int .i64 0), (.slice none 0 0)]) ti36 rfl rfl rfl rfl (by intro u hu; simp only [List.mem_cons, List.not_mem_nil, or_false] at hu; rcases hu with rfl | rfl | rfl <;> first | rfl) (by simp) (by kernel_rfl) (hH4.front 0 rfl) fun w9 hH10 => ?_)
    refine s_op (o_assign (v := (.bool false)) rfl ?_)
    refine s_nil ?_
    refine t_norm (hK8 _ _ ?_)
    refine wp_ret ?_
    refine t_ret (c_retC2 Tryz.results66 rfl (run_loadVarN (cs := [(.int .i64 0), (.int .i64 0), (.slice none 0 0)]) Tryz.underlying36 rfl ti36 hH10 (seg_sub 0 rfl) (CellsAt.one rfl)) (x := (.bool false)) rfl ?_)
    have hE_ := readP_no (s := s) (.inl (by omega))
    have q11 : (readP s).2.1 = 0 := by rw [hE_]
    have q12 : (readP s).2.2.1 = 0 := by rw [hE_]
    have q13 : (readP s).2.2.2 = ([] : List Cel) := by rw [hE_]
    have q14 : (readP s).1 = false := by rw [hE_]
    have hH15 : Has E w9 [[], R] := (Has.nil (hH10.front 1 rfl)).first 2 rfl
    exact ⟨_, _, by rw [q11, q12]; rw [q14], (by rw [q13]; exact (Own.nil 70 2)), hH15⟩
  · -- not: (s.length : Int) ≠ 256
    refine wp_skip ?_
    refine t_norm (hK5 _ _ ?_)
    refine wp_seq_k fun K16 hK16 => ?_
    refine c_region ?_
    refine s_op (o_alloc (cs := #[(.int .i64 0), (.int .i64 0), (.slice none 0 0)]) ti36 rfl hH4 fun b17 w18 hH19 => ?_)
    refine s_nil ?_
    refine t_norm (hK16 _ _ ?_)
    refine wp_seq_k fun K20 hK20 => ?_
    refine c_region ?_
    refine s_op (o_move (v := (S s)) rfl ?_)
    refine s_op (o_callf (vs := #[(S s), (.int .i64 1)]) ca106 rfl (args2 rfl rfl) (take_c hH19.all 1 s (by omega)) ?_)
    rintro _ w23 ⟨rfl, hX21⟩
    refine ⟨_, rfl, ?_⟩
    have hH22 := hX21.of_all
    refine s_op (o_move (v := (.tuple #[(.int .i64 ((takeS s 1).1)), (S ((takeS s 1).2.1)), (.bool ((takeS s 1).2.2))])) rfl ?_)
    refine s_op (o_extract (v := (.int .i64 ((takeS s 1).1))) rfl rfl ?_)
    refine s_op (o_extract (v := (S ((takeS s 1).2.1))) rfl rfl ?_)
    refine s_op (o_extract (v := (.bool ((takeS s 1).2.2))) rfl rfl ?_)
    refine s_op (o_assign (v := (.int .i64 ((takeS s 1).1))) rfl ?_)
    refine s_op (o_assign (v := (S ((takeS s 1).2.1))) rfl ?_)
    refine s_op (o_assign (v := (.bool ((takeS s 1).2.2))) rfl ?_)
    refine s_nil ?_
    refine t_norm (hK20 _ _ ?_)
    refine wp_seq_k fun K24 hK24 => ?_
    refine c_region ?_
    refine s_op (o_move (v := (S ((takeS s 1).2.1))) rfl ?_)
    refine s_op (o_callf (vs := #[(S ((takeS s 1).2.1)), (.int .i64 8)]) ca106 rfl (args2 rfl rfl) (take_c hH22.all 8 ((takeS s 1).2.1) (by omega)) ?_)
    rintro _ w27 ⟨rfl, hX25⟩
    refine ⟨_, rfl, ?_⟩
    have hH26 := hX25.of_all
    refine s_op (o_move (v := (.tuple #[(.int .i64 ((takeS ((takeS s 1).2.1) 8).1)), (S ((takeS ((takeS s 1).2.1) 8).2.1)), (.bool ((takeS ((takeS s 1).2.1) 8).2.2))])) rfl ?_)
    refine s_op (o_extract (v := (.int .i64 ((takeS ((takeS s 1).2.1) 8).1))) rfl rfl ?_)
    refine s_op (o_extract (v := (S ((takeS ((takeS s 1).2.1) 8).2.1))) rfl rfl ?_)
    refine s_op (o_extract (v := (.bool ((takeS ((takeS s 1).2.1) 8).2.2))) rfl rfl ?_)
    refine s_op (o_assign (v := (.int .i64 ((takeS ((takeS s 1).2.1) 8).1))) rfl ?_)
    refine s_op (o_assign (v := (S ((takeS ((takeS s 1).2.1) 8).2.1))) rfl ?_)
    refine s_op (o_assign (v := (.bool ((takeS ((takeS s 1).2.1) 8).2.2))) rfl ?_)
    refine s_nil ?_
    refine t_norm (hK24 _ _ ?_)
    refine wp_seq_k fun K28 hK28 => ?_
    refine c_region ?_
    refine s_op (o_move (v := (S ((takeS ((takeS s 1).2.1) 8).2.1))) rfl ?_)
    refine s_op (o_callf (vs := #[(S ((takeS ((takeS s 1).2.1) 8).2.1)), (.int .i64 1)]) ca106 rfl (args2 rfl rfl) (take_c hH26.all 1 ((takeS ((takeS s 1).2.1) 8).2.1) (by omega)) ?_)
    rintro _ w31 ⟨rfl, hX29⟩
    refine ⟨_, rfl, ?_⟩
    have hH30 := hX29.of_all
    refine s_op (o_move (v := (.tuple #[(.int .i64 ((takeS ((takeS ((takeS s 1).2.1) 8).2.1) 1).1)), (S ((takeS ((takeS ((takeS s 1).2.1) 8).2.1) 1).2.1)), (.bool ((takeS ((takeS ((takeS s 1).2.1) 8).2.1) 1).2.2))])) rfl ?_)
    refine s_op (o_extract (v := (.int .i64 ((takeS ((takeS ((takeS s 1).2.1) 8).2.1) 1).1))) rfl rfl ?_)
    refine s_op (o_extract (v := (S ((takeS ((takeS ((takeS s 1).2.1) 8).2.1) 1).2.1))) rfl rfl ?_)
    refine s_op (o_extract (v := (.bool ((takeS ((takeS ((takeS s 1).2.1) 8).2.1) 1).2.2))) rfl rfl ?_)
    refine s_op (o_assign (v := (.int .i64 ((takeS ((takeS ((takeS s 1).2.1) 8).2.1) 1).1))) rfl ?_)
    refine s_op (o_assign (v := (S ((takeS ((takeS ((takeS s 1).2.1) 8).2.1) 1).2.1))) rfl ?_)
    refine s_op (o_assign (v := (.bool ((takeS ((takeS ((takeS s 1).2.1) 8).2.1) 1).2.2))) rfl ?_)
    refine s_nil ?_
    refine t_norm (hK28 _ _ ?_)
    refine wp_seq_k fun K32 hK32 => ?_
    refine c_region ?_
    refine s_op (o_move (v := (.int .i64 ((takeS s 1).1))) rfl ?_)
    refine s_op (o_move (v := (.int .i64 ((takeS ((takeS s 1).2.1) 8).1))) rfl ?_)
    refine s_op (o_fieldAddr (k := 0) (fun _ => by kernel_rfl) rfl ?_)
    refine s_eff (o_store1 (c' := #[(.int .i64 ((takeS s 1).1)), (.int .i64 0), (.slice none 0 0)]) ti3 rfl rfl rfl (by simp) rfl (hH30.front 0 rfl) fun w33 hH34 => ?_)
    refine s_op (o_fieldAddr (k := 1) (fun _ => by kernel_rfl) rfl ?_)
    refine s_eff (o_store1 (c' := #[(.int .i64 ((takeS s 1).1)), (.int .i64 ((takeS ((takeS s 1).2.1) 8).1)), (.slice none 0 0)]) ti3 rfl rfl rfl (by simp) rfl (hH34.front 0 rfl) fun w35 hH36 => ?_)
    refine s_nil ?_
    refine t_norm (hK32 _ _ ?_)
    refine wp_seq_k fun K37 hK37 => ?_
    refine wp_block ?_
    let I39 : Nat → (Nat → Value) → World → Prop := fun n__ r__ w__ => ∃ (ok : Bool) (n : Int) (rest : Bs) (vo : Value) (so : List Hp) (acc : List Cel), n__ = n.toNat ∧ Has E w__ [so, [Hp.one b17 (.cells #[(.int .i64 ((takeS s 1).1)), (.int .i64 ((takeS ((takeS s 1).2.1) 8).1)), vo] 36 (0, 0))], [Hp.one b2 (.cells #[(.int .i64 0), (.int .i64 0), (.slice none 0 0)] 36 (0, 0))], R] ∧ (Own 70 2 vo acc.length (acc.flatMap ceC) so) ∧ (acc.length ≤ 8) ∧ (rest.length ≤ 256) ∧ (n ≤ 255) ∧ (goP0 s = goS ok n rest acc) ∧ r__ 0 = (S s) ∧ r__ 2 = (.pointer (some ⟨b2, 0, none⟩)) ∧ r__ 3 = (.bool false) ∧ r__ 4 = (.pointer (some ⟨b17, 0, none⟩)) ∧ r__ 5 = (.int .i64 ((takeS s 1).1)) ∧ r__ 6 = (S rest) ∧ r__ 8 = (.int .i64 ((takeS ((takeS s 1).2.1) 8).1)) ∧ r__ 9 = (.bool ok) ∧ r__ 10 = (.int .i64 n) ∧ r__ 15 = (.bool (decide ((s.length : Int) ≠ 256)))
    have hH40 : Has E w35 [[], [Hp.one b17 (.cells #[(.int .i64 ((takeS s 1).1)), (.int .i64 ((takeS ((takeS s 1).2.1) 8).1)), (.slice none 0 0)] 36 (0, 0))], [Hp.one b2 (.cells #[(.int .i64 0), (.int .i64 0), (.slice none 0 0)] 36 (0, 0))], R] := (Has.nil (((hH36.front 2 rfl).front 2 rfl).front 2 rfl)).first 4 rfl
    refine c_loop I39 _ ⟨((takeS ((takeS s 1).2.1) 8).2.2), ((takeS ((takeS ((takeS s 1).2.1) 8).2.1) 1).1), ((takeS ((takeS ((takeS s 1).2.1) 8).2.1) 1).2.1), (.slice none 0 0), [], [], rfl, hH40, Own.nil 70 2, (by simp), (by omega), (by omega), goS_start s, rfl, rfl, rfl, rfl, rfl, rfl, rfl, rfl, rfl, rfl⟩ ?_
    rintro n_ r43 w41 ⟨ok, n, rest, vo, so, acc, rfl, hH42, hoo, hal, hrl, hn, hgo, e38_0, e38_2, e38_3, e38_4, e38_5, e38_6, e38_8, e38_9, e38_10, e38_15⟩
    refine wp_seq_k fun K44 hK44 => ?_
    refine wp_seq_k fun K45 hK45 => ?_
    refine c_region ?_
    refine s_op (o_move (v := (.bool ok)) e38_9 ?_)
    refine s_op (o_move (v := (.bool ok)) rfl ?_)
    rcases Bool.eq_false_or_eq_true ok with h46 | h46
    · -- ok
      refine s_on 40 rfl (congrArg Value.bool h46) (o_move (v := (.int .i64 n)) e38_10 ?_)
      refine s_on 40 rfl (congrArg Value.bool h46) (o_gtr (a := n) (b := 0) rfl rfl ?_)
      refine s_op (o_pick_t (u := (.bool (decide (0 < n)))) ((rfl : _ = _).trans (congrArg Value.bool h46)) rfl ?_)
      refine s_op (o_move (v := (.bool (decide (0 < n)))) rfl ?_)
      by_cases h47 : 0 < n
      · -- 0 < n
        refine s_on 44 rfl (congrArg Value.bool (decide_eq_true h47)) (o_fieldAddr (k := 2) (fun _ => by kernel_rfl) e38_4 ?_)
        refine s_on 44 rfl (congrArg Value.bool (decide_eq_true h47)) (o_load1 (v := vo) Tryz.underlying34 rfl rfl hH42 (seg_sub 1 rfl) (CellsAt.one rfl) ?_)
        refine s_on 44 rfl (congrArg Value.bool (decide_eq_true h47)) (o_lenS Tryz.underlying34 rfl hoo.sl ?_)
        refine s_on 44 rfl (congrArg Value.bool (decide_eq_true h47)) (o_lss (a := ((acc.length : Nat) : Int)) (b := 8) rfl rfl ?_)
        refine s_op (o_pick_t (u := (.bool (decide (((acc.length : Nat) : Int) < 8)))) ((rfl : _ = _).trans (congrArg Value.bool (decide_eq_true h47))) rfl ?_)
        refine s_nil ?_
        refine t_norm (hK45 _ _ ?_)
        refine c_cond rfl (fun h48 => ?_) (fun h48 => ?_)
        · -- ((acc.length : Nat) : Int) < 8
          refine wp_skip ?_
          refine t_norm (hK44 _ _ ?_)
          refine wp_seq_k fun K49 hK49 => ?_
          refine wp_block ?_
          refine wp_seq_k fun K50 hK50 => ?_
          refine c_region ?_
          refine s_op (o_alloc (cs := #[(S ([] : List UInt8)), (S ([] : List UInt8))]) ti70 rfl hH42 fun b51 w52 hH53 => ?_)
          refine s_nil ?_
          refine t_norm (hK50 _ _ ?_)
          refine wp_seq_k fun K54 hK54 => ?_
          refine c_region ?_
          refine s_op (o_move (v := (S rest)) e38_6 ?_)
          refine s_op (o_callf (vs := #[(S rest)]) ca107 rfl (args1 rfl) (text_c (s := rest) hH53.all (by first | omega | (simp only []; omega) | (simp; done) | (simp; omega))) ?_)
          rintro _ w57 ⟨rfl, hX55⟩
          refine ⟨_, rfl, ?_⟩
          have hH56 := hX55.of_all
          have htl_ := textS_le rest
          refine s_op (o_move (v := (.tuple #[(S ((textS rest).1)), (S ((textS rest).2.1)), (.bool ((textS rest).2.2))])) rfl ?_)
          refine s_op (o_extract (v := (S ((textS rest).1))) rfl rfl ?_)
          refine s_op (o_extract (v := (S ((textS rest).2.1))) rfl rfl ?_)
          refine s_op (o_extract (v := (.bool ((textS rest).2.2))) rfl rfl ?_)
          refine s_op (o_fieldAddr (k := 0) (fun _ => by kernel_rfl) rfl ?_)
          refine s_eff (o_store1 (c' := #[(S ((textS rest).1)), (S ([] : List UInt8))]) ti9 rfl rfl rfl (by simp) rfl (hH56.front 0 rfl) fun w58 hH59 => ?_)
          refine s_op (o_assign (v := (S ((textS rest).2.1))) rfl ?_)
          refine s_op (o_assign (v := (.bool ((textS rest).2.2))) rfl ?_)
          refine s_nil ?_
          refine t_norm (hK54 _ _ ?_)
          refine wp_seq_k fun K60 hK60 => ?_
          refine wp_seq_k fun K61 hK61 => ?_
          refine c_region ?_
          refine s_op (o_move (v := (.bool ((textS rest).2.2))) rfl ?_)
          refine s_nil ?_
          refine t_norm (hK61 _ _ ?_)
          refine c_condb rfl (fun h62 => ?_) (fun h62 => ?_)
          · -- (textS rest).2.2
            refine c_region ?_
            refine s_op (o_move (v := (S ((textS rest).2.1))) rfl ?_)
            refine s_op (o_callf (vs := #[(S ((textS rest).2.1))]) ca107 rfl (args1 rfl) (text_c (s := (textS rest).2.1) hH59.all (by first | omega | (simp only []; omega) | (simp; done) | (simp; omega))) ?_)
            rintro _ w65 ⟨rfl, hX63⟩
            refine ⟨_, rfl, ?_⟩
            have hH64 := hX63.of_all
            have htl_ := textS_le ((textS rest).2.1)
            refine s_op (o_move (v := (.tuple #[(S ((textS ((textS rest).2.1)).1)), (S ((textS ((textS rest).2.1)).2.1)), (.bool ((textS ((textS rest).2.1)).2.2))])) rfl ?_)
            refine s_op (o_extract (v := (S ((textS ((textS rest).2.1)).1))) rfl rfl ?_)
            refine s_op (o_extract (v := (S ((textS ((textS rest).2.1)).2.1))) rfl rfl ?_)
            refine s_op (o_extract (v := (.bool ((textS ((textS rest).2.1)).2.2))) rfl rfl ?_)
            refine s_op (o_fieldAddr (k := 1) (fun _ => by kernel_rfl) rfl ?_)
            refine s_eff (o_store1 (c' := #[(S ((textS rest).1)), (S ((textS ((textS rest).2.1)).1))]) ti9 rfl rfl rfl (by simp) rfl (hH64.front 0 rfl) fun w66 hH67 => ?_)
            refine s_op (o_assign (v := (S ((textS ((textS rest).2.1)).2.1))) rfl ?_)
            refine s_op (o_assign (v := (.bool ((textS ((textS rest).2.1)).2.2))) rfl ?_)
            refine s_nil ?_
            refine t_norm (hK60 _ _ ?_)
            refine c_region ?_
            refine s_op (o_fieldAddr (k := 2) (fun _ => by kernel_rfl) e38_4 ?_)
            refine s_op (o_load1 (v := vo) Tryz.underlying34 rfl rfl hH67 (seg_sub 2 rfl) (CellsAt.one rfl) ?_)
            refine s_op (o_loadN (cs := [(S ((textS rest).1)), (S ((textS ((textS rest).2.1)).1))]) Tryz.underlying70 rfl ti70 rfl hH67 (seg_sub 0 rfl) (CellsAt.one rfl) ?_)
            refine s_op (o_buildSlice (ps := #[(0, (.agg #[(S ((textS rest).1)), (S ((textS ((textS rest).2.1)).1))]))]) (cells := #[(S ((textS rest).1)), (S ((textS ((textS rest).2.1)).1))]) Tryz.underlying34 ti70 (by decide) (parts1 rfl) (by kernel_rfl) hH67 fun b68 w69 hH70 => ?_)
            refine s_op (o_append Tryz.underlying34 ti70 rfl (by decide) rfl hoo rfl (sl_litF (f := ceC) (l := [(((textS rest).1, (textS ((textS rest).2.1)).1) : Cel)]) ceC_len rfl rfl (by simp)) (hH70.front 2 rfl) (seg_sub 0 rfl) (one_ceC _) (by simp; omega) (by simp; omega) fun v71 s72 w74 ho73 hH75 => ?_)
            have ho73 : Own 70 2 v71 (acc ++ [(((textS rest).1, (textS ((textS rest).2.1)).1) : Cel)]).length ((acc ++ [(((textS rest).1, (textS ((textS rest).2.1)).1) : Cel)]).flatMap ceC) s72 := ho73.appF
            refine s_op (o_fieldAddr (k := 2) (fun _ => by kernel_rfl) e38_4 ?_)
            refine s_eff (o_store1 (c' := #[(.int .i64 ((takeS s 1).1)), (.int .i64 ((takeS ((takeS s 1).2.1) 8).1)), v71]) ti34 rfl rfl ho73.one (by simp) rfl (hH75.front 3 rfl) fun w76 hH77 => ?_)
            refine s_nil ?_
            refine b_norm ?_
            refine t_norm (hK49 _ _ ?_)
            refine c_region ?_
            refine s_op (o_move (v := (.int .i64 n)) e38_10 ?_)
            refine s_op (o_sub (a := n) (b := 1) rfl rfl (w64 (by omega) (by omega)) ?_)
            refine s_op (o_assign (v := (.int .i64 (n - 1))) rfl ?_)
            refine s_nil ?_
            have hH78 : Has E w76 [s72, [Hp.one b17 (.cells #[(.int .i64 ((takeS s 1).1)), (.int .i64 ((takeS ((takeS s 1).2.1) 8).1)), v71] 36 (0, 0))], [Hp.one b2 (.cells #[(.int .i64 0), (.int .i64 0), (.slice none 0 0)] 36 (0, 0))], R] := ((((hH77.front 5 rfl).front 5 rfl).front 2 rfl).front 3 rfl).first 4 rfl
            refine t_norm ⟨(n - 1).toNat, _, rfl, ?_, ?_⟩
            · omega
            · exact ⟨((textS ((textS rest).2.1)).2.2), (n - 1), ((textS ((textS rest).2.1)).2.1), v71, s72, (acc ++ [(((textS rest).1, (textS ((textS rest).2.1)).1) : Cel)]), rfl, hH78, (ho73), (by simp only [List.length_append, List.length_cons, List.length_nil]; omega), (by omega), (by omega), (by ((have h_ := goS_step (r3 := ((textS ((textS rest).2.1)).2.1)) hgo h46 (by omega) (by omega)); rw [if_pos (by simpa using h62)] at h_; exact h_)), e38_0, e38_2, e38_3, e38_4, e38_5, rfl, e38_8, rfl, rfl, e38_15⟩
          · -- not: (textS rest).2.2
            refine wp_skip ?_
            refine t_norm (hK60 _ _ ?_)
            refine c_region ?_
            refine s_op (o_fieldAddr (k := 2) (fun _ => by kernel_rfl) e38_4 ?_)
            refine s_op (o_load1 (v := vo) Tryz.underlying34 rfl rfl hH59 (seg_sub 2 rfl) (CellsAt.one rfl) ?_)
            refine s_op (o_loadN (cs := [(S ((textS rest).1)), (S ([] : List UInt8))]) Tryz.underlying70 rfl ti70 rfl hH59 (seg_sub 0 rfl) (CellsAt.one rfl) ?_)
            refine s_op (o_buildSlice (ps := #[(0, (.agg #[(S ((textS rest).1)), (S ([] : List UInt8))]))]) (cells := #[(S ((textS rest).1)), (S ([] : List UInt8))]) Tryz.underlying34 ti70 (by decide) (parts1 rfl) (by kernel_rfl) hH59 fun b79 w80 hH81 => ?_)
            refine s_op (o_append Tryz.underlying34 ti70 rfl (by decide) rfl hoo rfl (sl_litF (f := ceC) (l := [(((textS rest).1, ([] : List UInt8)) : Cel)]) ceC_len rfl rfl (by simp)) (hH81.front 2 rfl) (seg_sub 0 rfl) (one_ceC _) (by simp; omega) (by simp; omega) fun v82 s83 w85 ho84 hH86 => ?_)
            have ho84 : Own 70 2 v82 (acc ++ [(((textS rest).1, ([] : List UInt8)) : Cel)]).length ((acc ++ [(((textS rest).1, ([] : List UInt8)) : Cel)]).flatMap ceC) s83 := ho84.appF
            refine s_op (o_fieldAddr (k := 2) (fun _ => by kernel_rfl) e38_4 ?_)
            refine s_eff (o_store1 (c' := #[(.int .i64 ((takeS s 1).1)), (.int .i64 ((takeS ((takeS s 1).2.1) 8).1)), v82]) ti34 rfl rfl ho84.one (by simp) rfl (hH86.front 3 rfl) fun w87 hH88 => ?_)
            refine s_nil ?_
            refine b_norm ?_
            refine t_norm (hK49 _ _ ?_)
            refine c_region ?_
            refine s_op (o_move (v := (.int .i64 n)) e38_10 ?_)
            refine s_op (o_sub (a := n) (b := 1) rfl rfl (w64 (by omega) (by omega)) ?_)
            refine s_op (o_assign (v := (.int .i64 (n - 1))) rfl ?_)
            refine s_nil ?_
            have hH89 : Has E w87 [s83, [Hp.one b17 (.cells #[(.int .i64 ((takeS s 1).1)), (.int .i64 ((takeS ((takeS s 1).2.1) 8).1)), v82] 36 (0, 0))], [Hp.one b2 (.cells #[(.int .i64 0), (.int .i64 0), (.slice none 0 0)] 36 (0, 0))], R] := ((((hH88.front 5 rfl).front 5 rfl).front 2 rfl).front 3 rfl).first 4 rfl
            refine t_norm ⟨(n - 1).toNat, _, rfl, ?_, ?_⟩
            · omega
            · exact ⟨((textS rest).2.2), (n - 1), ((textS rest).2.1), v82, s83, (acc ++ [(((textS rest).1, ([] : List UInt8)) : Cel)]), rfl, hH89, (ho84), (by simp only [List.length_append, List.length_cons, List.length_nil]; omega), (by omega), (by omega), (by ((have h_ := goS_step (r3 := ((textS rest).2.1)) hgo h46 (by omega) (by omega)); rw [if_neg (by simpa using h62)] at h_; rw [show (textS rest).2.2 = false by simpa using h62]; exact h_)), e38_0, e38_2, e38_3, e38_4, e38_5, rfl, e38_8, rfl, rfl, e38_15⟩
        · -- not: ((acc.length : Nat) : Int) < 8
          refine wp_exit ?_
          refine t_exit (t_exit (x_in (?_)))
          refine t_norm (hK37 _ _ ?_)
          refine wp_seq_k fun K90 hK90 => ?_
          refine wp_seq_k fun K91 hK91 => ?_
          refine c_region ?_
          refine s_op (o_move (v := (.bool ok)) e38_9 ?_)
          refine s_op (o_not (b := true) ((rfl : _ = _).trans (congrArg Value.bool h46)) ?_)
          refine s_op (o_move (v := (.bool false)) rfl ?_)
          refine s_on 75 rfl rfl (o_loadN (cs := [(.int .i64 ((takeS s 1).1)), (.int .i64 ((takeS ((takeS s 1).2.1) 8).1)), vo]) Tryz.underlying36 rfl ti36 e38_4 hH42 (seg_sub 1 rfl) (CellsAt.one rfl) ?_)
          refine s_on 75 rfl rfl (o_callf (vs := #[(.agg #[(.int .i64 ((takeS s 1).1)), (.int .i64 ((takeS ((takeS s 1).2.1) 8).1)), vo])]) ca96 rfl (args1 rfl) (plaid_c (no := (takeS s 1).1) (gsn := (takeS ((takeS s 1).2.1) 8).1) (l := acc) hH42.all (hoo.sl.mono (seg_sub 0 rfl)) (hg.mono (seg_sub 3 rfl))) ?_)
          rintro _ w94 ⟨rfl, hX92⟩
          refine ⟨_, rfl, ?_⟩
          have hH93 := hX92.of_all
          have hll_ := laidP_le ((takeS s 1).1) ((takeS ((takeS s 1).2.1) 8).1) acc
          refine s_on 75 rfl rfl (o_move (v := (S s)) e38_0 ?_)
          refine s_on 75 rfl rfl (o_sneq (a := (laidP ((takeS s 1).1) ((takeS ((takeS s 1).2.1) 8).1) acc)) (b := s) rfl rfl ?_)
          refine s_op (o_pick_f (u := (.bool (decide ((laidP ((takeS s 1).1) ((takeS ((takeS s 1).2.1) 8).1) acc) ≠ s)))) rfl rfl ?_)
          refine s_nil ?_
          refine t_norm (hK91 _ _ ?_)
          refine c_cond rfl (fun h95 => ?_) (fun h95 => ?_)
          · -- (laidP ((takeS s 1).1) ((takeS ((takeS s 1).2.1) 8).1) acc) ≠ s
            refine wp_seq_k fun K96 hK96 => ?_
            refine c_region ?_
            refine s_op (o_sight (v := (.agg #[(.int .i64 0), (.int .i64 0), (.slice none 0 0)])) (fun _ => by kernel_rfl) ?_)
            refine s_eff (o_storeN (vs := [(.int .i64 0), (.int .i64 0), (.slice none 0 0)]) (c' := #[(.int .i64 0), (.int .i64 0), (.slice none 0 0)]) ti36 e38_2 rfl rfl rfl (by intro u hu; simp only [List.mem_cons, List.not_mem_nil, or_false] at hu; rcases hu with rfl | rfl | rfl <;> first | rfl) (by simp) (by kernel_rfl) (hH93.front 2 rfl) fun w97 hH98 => ?_)
            refine s_op (o_assign (v := (.bool false)) rfl ?_)
            refine s_nil ?_
            refine t_norm (hK96 _ _ ?_)
            refine wp_ret ?_
            refine t_ret (c_retC2 Tryz.results66 e38_2 (run_loadVarN (cs := [(.int .i64 0), (.int .i64 0), (.slice none 0 0)]) Tryz.underlying36 rfl ti36 hH98 (seg_sub 0 rfl) (CellsAt.one rfl)) (x := (.bool false)) rfl ?_)
            have hge_ := goS_end hgo (by first | exact .inr (.inl (by omega)) | exact .inr (.inr (by omega)) | exact .inl (by simpa using h46))
            have hE_ := readP_no (s := s) (by rw [hge_]; first | exact .inr (.inl (by simpa using h7)) | exact .inr (.inr h7) | exact .inr (.inl (by simpa using h46)) | exact .inr (.inr h46) | exact .inr (.inl (by simpa using h47)) | exact .inr (.inr h47) | exact .inr (.inl (by simpa using h48)) | exact .inr (.inr h48) | exact .inr (.inl (by simpa using h95)) | exact .inr (.inr h95))
            have q99 : (readP s).2.1 = 0 := by rw [hE_]
            have q100 : (readP s).2.2.1 = 0 := by rw [hE_]
            have q101 : (readP s).2.2.2 = ([] : List Cel) := by rw [hE_]
            have q102 : (readP s).1 = false := by rw [hE_]
            have hH103 : Has E w97 [[], R] := (Has.nil (hH98.front 3 rfl)).first 2 rfl
            exact ⟨_, _, by rw [q99, q100]; rw [q102], (by rw [q101]; exact (Own.nil 70 2)), hH103⟩
          · -- not: (laidP ((takeS s 1).1) ((takeS ((takeS s 1).2.1) 8).1) acc) ≠ s
            refine wp_skip ?_
            refine t_norm (hK90 _ _ ?_)
            refine wp_seq_k fun K104 hK104 => ?_
            refine c_region ?_
            refine s_op (o_loadN (cs := [(.int .i64 ((takeS s 1).1)), (.int .i64 ((takeS ((takeS s 1).2.1) 8).1)), vo]) Tryz.underlying36 rfl ti36 e38_4 hH93 (seg_sub 1 rfl) (CellsAt.one rfl) ?_)
            refine s_eff (o_storeN (vs := [(.int .i64 ((takeS s 1).1)), (.int .i64 ((takeS ((takeS s 1).2.1) 8).1)), vo]) (c' := #[(.int .i64 ((takeS s 1).1)), (.int .i64 ((takeS ((takeS s 1).2.1) 8).1)), vo]) ti36 e38_2 rfl rfl rfl (by intro u hu; simp only [List.mem_cons, List.not_mem_nil, or_false] at hu; rcases hu with rfl | rfl | rfl <;> first | rfl | exact hoo.one) (by simp) (by kernel_rfl) (hH93.front 2 rfl) fun w105 hH106 => ?_)
            refine s_op (o_assign (v := (.bool true)) rfl ?_)
            refine s_nil ?_
            refine t_norm (hK104 _ _ ?_)
            refine wp_ret ?_
            refine c_retC2 Tryz.results66 e38_2 (run_loadVarN (cs := [(.int .i64 ((takeS s 1).1)), (.int .i64 ((takeS ((takeS s 1).2.1) 8).1)), vo]) Tryz.underlying36 rfl ti36 hH106 (seg_sub 0 rfl) (CellsAt.one rfl)) (x := (.bool true)) rfl ?_
            have hge_ := goS_end hgo (by first | exact .inr (.inl (by omega)) | exact .inr (.inr (by omega)))
            rw [h46] at hge_
            have hE_ := readP_yes (s := s) (by omega) hge_ (Classical.not_not.1 h95)
            have q107 : (readP s).2.1 = (takeS s 1).1 := by rw [hE_]
            have q108 : (readP s).2.2.1 = (takeS ((takeS s 1).2.1) 8).1 := by rw [hE_]
            have q109 : (readP s).2.2.2 = acc := by rw [hE_]
            have q110 : (readP s).1 = true := by rw [hE_]
            have hH111 : Has E w105 [so, R] := ((hH106.front 3 rfl).front 2 rfl).first 2 rfl
            exact ⟨_, _, by rw [q107, q108]; rw [q110], (by rw [q109]; exact hoo), hH111⟩
      · -- not: 0 < n
        refine s_off (b' := false) 44 rfl (congrArg Value.bool (decide_eq_false h47)) rfl ?_
        refine s_off (b' := false) 44 rfl (congrArg Value.bool (decide_eq_false h47)) rfl ?_
        refine s_off (b' := false) 44 rfl (congrArg Value.bool (decide_eq_false h47)) rfl ?_
        refine s_off (b' := false) 44 rfl (congrArg Value.bool (decide_eq_false h47)) rfl ?_
        refine s_op (o_pick_f (u := (.bool false)) ((rfl : _ = _).trans (congrArg Value.bool (decide_eq_false h47))) rfl ?_)
        refine s_nil ?_
        refine t_norm (hK45 _ _ ?_)
        refine c_false rfl rfl ?_
        refine wp_exit ?_
        refine t_exit (t_exit (x_in (?_)))
        refine t_norm (hK37 _ _ ?_)
        refine wp_seq_k fun K112 hK112 => ?_
        refine wp_seq_k fun K113 hK113 => ?_
        refine c_region ?_
        refine s_op (o_move (v := (.bool ok)) e38_9 ?_)
        refine s_op (o_not (b := true) ((rfl : _ = _).trans (congrArg Value.bool h46)) ?_)
        refine s_op (o_move (v := (.bool false)) rfl ?_)
        refine s_on 75 rfl rfl (o_loadN (cs := [(.int .i64 ((takeS s 1).1)), (.int .i64 ((takeS ((takeS s 1).2.1) 8).1)), vo]) Tryz.underlying36 rfl ti36 e38_4 hH42 (seg_sub 1 rfl) (CellsAt.one rfl) ?_)
        refine s_on 75 rfl rfl (o_callf (vs := #[(.agg #[(.int .i64 ((takeS s 1).1)), (.int .i64 ((takeS ((takeS s 1).2.1) 8).1)), vo])]) ca96 rfl (args1 rfl) (plaid_c (no := (takeS s 1).1) (gsn := (takeS ((takeS s 1).2.1) 8).1) (l := acc) hH42.all (hoo.sl.mono (seg_sub 0 rfl)) (hg.mono (seg_sub 3 rfl))) ?_)
        rintro _ w116 ⟨rfl, hX114⟩
        refine ⟨_, rfl, ?_⟩
        have hH115 := hX114.of_all
        have hll_ := laidP_le ((takeS s 1).1) ((takeS ((takeS s 1).2.1) 8).1) acc
        refine s_on 75 rfl rfl (o_move (v := (S s)) e38_0 ?_)
        refine s_on 75 rfl rfl (o_sneq (a := (laidP ((takeS s 1).1) ((takeS ((takeS s 1).2.1) 8).1) acc)) (b := s) rfl rfl ?_)
        refine s_op (o_pick_f (u := (.bool (decide ((laidP ((takeS s 1).1) ((takeS ((takeS s 1).2.1) 8).1) acc) ≠ s)))) rfl rfl ?_)
        refine s_nil ?_
        refine t_norm (hK113 _ _ ?_)
        refine c_cond rfl (fun h117 => ?_) (fun h117 => ?_)
        · -- (laidP ((takeS s 1).1) ((takeS ((takeS s 1).2.1) 8).1) acc) ≠ s
          refine wp_seq_k fun K118 hK118 => ?_
          refine c_region ?_
          refine s_op (o_sight (v := (.agg #[(.int .i64 0), (.int .i64 0), (.slice none 0 0)])) (fun _ => by kernel_rfl) ?_)
          refine s_eff (o_storeN (vs := [(.int .i64 0), (.int .i64 0), (.slice none 0 0)]) (c' := #[(.int .i64 0), (.int .i64 0), (.slice none 0 0)]) ti36 e38_2 rfl rfl rfl (by intro u hu; simp only [List.mem_cons, List.not_mem_nil, or_false] at hu; rcases hu with rfl | rfl | rfl <;> first | rfl) (by simp) (by kernel_rfl) (hH115.front 2 rfl) fun w119 hH120 => ?_)
          refine s_op (o_assign (v := (.bool false)) rfl ?_)
          refine s_nil ?_
          refine t_norm (hK118 _ _ ?_)
          refine wp_ret ?_
          refine t_ret (c_retC2 Tryz.results66 e38_2 (run_loadVarN (cs := [(.int .i64 0), (.int .i64 0), (.slice none 0 0)]) Tryz.underlying36 rfl ti36 hH120 (seg_sub 0 rfl) (CellsAt.one rfl)) (x := (.bool false)) rfl ?_)
          have hge_ := goS_end hgo (by first | exact .inr (.inl (by omega)) | exact .inr (.inr (by omega)) | exact .inl (by simpa using h46))
          have hE_ := readP_no (s := s) (by rw [hge_]; first | exact .inr (.inl (by simpa using h7)) | exact .inr (.inr h7) | exact .inr (.inl (by simpa using h46)) | exact .inr (.inr h46) | exact .inr (.inl (by simpa using h47)) | exact .inr (.inr h47) | exact .inr (.inl (by simpa using h117)) | exact .inr (.inr h117))
          have q121 : (readP s).2.1 = 0 := by rw [hE_]
          have q122 : (readP s).2.2.1 = 0 := by rw [hE_]
          have q123 : (readP s).2.2.2 = ([] : List Cel) := by rw [hE_]
          have q124 : (readP s).1 = false := by rw [hE_]
          have hH125 : Has E w119 [[], R] := (Has.nil (hH120.front 3 rfl)).first 2 rfl
          exact ⟨_, _, by rw [q121, q122]; rw [q124], (by rw [q123]; exact (Own.nil 70 2)), hH125⟩
        · -- not: (laidP ((takeS s 1).1) ((takeS ((takeS s 1).2.1) 8).1) acc) ≠ s
          refine wp_skip ?_
          refine t_norm (hK112 _ _ ?_)
          refine wp_seq_k fun K126 hK126 => ?_
          refine c_region ?_
          refine s_op (o_loadN (cs := [(.int .i64 ((takeS s 1).1)), (.int .i64 ((takeS ((takeS s 1).2.1) 8).1)), vo]) Tryz.underlying36 rfl ti36 e38_4 hH115 (seg_sub 1 rfl) (CellsAt.one rfl) ?_)
          refine s_eff (o_storeN (vs := [(.int .i64 ((takeS s 1).1)), (.int .i64 ((takeS ((takeS s 1).2.1) 8).1)), vo]) (c' := #[(.int .i64 ((takeS s 1).1)), (.int .i64 ((takeS ((takeS s 1).2.1) 8).1)), vo]) ti36 e38_2 rfl rfl rfl (by intro u hu; simp only [List.mem_cons, List.not_mem_nil, or_false] at hu; rcases hu with rfl | rfl | rfl <;> first | rfl | exact hoo.one) (by simp) (by kernel_rfl) (hH115.front 2 rfl) fun w127 hH128 => ?_)
          refine s_op (o_assign (v := (.bool true)) rfl ?_)
          refine s_nil ?_
          refine t_norm (hK126 _ _ ?_)
          refine wp_ret ?_
          refine c_retC2 Tryz.results66 e38_2 (run_loadVarN (cs := [(.int .i64 ((takeS s 1).1)), (.int .i64 ((takeS ((takeS s 1).2.1) 8).1)), vo]) Tryz.underlying36 rfl ti36 hH128 (seg_sub 0 rfl) (CellsAt.one rfl)) (x := (.bool true)) rfl ?_
          have hge_ := goS_end hgo (by first | exact .inr (.inl (by omega)) | exact .inr (.inr (by omega)))
          rw [h46] at hge_
          have hE_ := readP_yes (s := s) (by omega) hge_ (Classical.not_not.1 h117)
          have q129 : (readP s).2.1 = (takeS s 1).1 := by rw [hE_]
          have q130 : (readP s).2.2.1 = (takeS ((takeS s 1).2.1) 8).1 := by rw [hE_]
          have q131 : (readP s).2.2.2 = acc := by rw [hE_]
          have q132 : (readP s).1 = true := by rw [hE_]
          have hH133 : Has E w127 [so, R] := ((hH128.front 3 rfl).front 2 rfl).first 2 rfl
          exact ⟨_, _, by rw [q129, q130]; rw [q132], (by rw [q131]; exact hoo), hH133⟩
    · -- not: ok
      refine s_off (b' := false) 40 rfl (congrArg Value.bool h46) rfl ?_
      refine s_off (b' := false) 40 rfl (congrArg Value.bool h46) rfl ?_
      refine s_op (o_pick_f (u := (.bool false)) ((rfl : _ = _).trans (congrArg Value.bool h46)) rfl ?_)
      refine s_op (o_move (v := (.bool false)) rfl ?_)
      refine s_off (b' := false) 44 rfl rfl rfl ?_
      refine s_off (b' := false) 44 rfl rfl rfl ?_
      refine s_off (b' := false) 44 rfl rfl rfl ?_
      refine s_off (b' := false) 44 rfl rfl rfl ?_
      refine s_op (o_pick_f (u := (.bool false)) rfl rfl ?_)
      refine s_nil ?_
      refine t_norm (hK45 _ _ ?_)
      refine c_false rfl rfl ?_
      refine wp_exit ?_
      refine t_exit (t_exit (x_in (?_)))
      refine t_norm (hK37 _ _ ?_)
      refine wp_seq_k fun K134 hK134 => ?_
      refine wp_seq_k fun K135 hK135 => ?_
      refine c_region ?_
      refine s_op (o_move (v := (.bool ok)) e38_9 ?_)
      refine s_op (o_not (b := false) ((rfl : _ = _).trans (congrArg Value.bool h46)) ?_)
      refine s_op (o_move (v := (.bool true)) rfl ?_)
      refine s_off (b' := true) 75 rfl rfl rfl ?_
      refine s_off (b' := true) 75 rfl rfl rfl ?_
      refine s_off (b' := true) 75 rfl rfl rfl ?_
      refine s_off (b' := true) 75 rfl rfl rfl ?_
      refine s_op (o_pick_t (u := (.bool true)) rfl rfl ?_)
      refine s_nil ?_
      refine t_norm (hK135 _ _ ?_)
      refine c_true rfl rfl ?_
      refine wp_seq_k fun K136 hK136 => ?_
      refine c_region ?_
      refine s_op (o_sight (v := (.agg #[(.int .i64 0), (.int .i64 0), (.slice none 0 0)])) (fun _ => by kernel_rfl) ?_)
      refine s_eff (o_storeN (vs := [(.int .i64 0), (.int .i64 0), (.slice none 0 0)]) (c' := #[(.int .i64 0), (.int .i64 0), (.slice none 0 0)]) ti36 e38_2 rfl rfl rfl (by intro u hu; simp only [List.mem_cons, List.not_mem_nil, or_false] at hu; rcases hu with rfl | rfl | rfl <;> first | rfl) (by simp) (by kernel_rfl) (hH42.front 2 rfl) fun w137 hH138 => ?_)
      refine s_op (o_assign (v := (.bool false)) rfl ?_)
      refine s_nil ?_
      refine t_norm (hK136 _ _ ?_)
      refine wp_ret ?_
      refine t_ret (c_retC2 Tryz.results66 e38_2 (run_loadVarN (cs := [(.int .i64 0), (.int .i64 0), (.slice none 0 0)]) Tryz.underlying36 rfl ti36 hH138 (seg_sub 0 rfl) (CellsAt.one rfl)) (x := (.bool false)) rfl ?_)
      have hge_ := goS_end hgo (by first | exact .inr (.inl (by omega)) | exact .inr (.inr (by omega)) | exact .inl (by simpa using h46))
      have hE_ := readP_no (s := s) (by rw [hge_]; first | exact .inr (.inl (by simpa using h7)) | exact .inr (.inr h7) | exact .inr (.inl (by simpa using h46)) | exact .inr (.inr h46))
      have q139 : (readP s).2.1 = 0 := by rw [hE_]
      have q140 : (readP s).2.2.1 = 0 := by rw [hE_]
      have q141 : (readP s).2.2.2 = ([] : List Cel) := by rw [hE_]
      have q142 : (readP s).1 = false := by rw [hE_]
      have hH143 : Has E w137 [[], R] := (Has.nil (hH138.front 3 rfl)).first 2 rfl
      exact ⟨_, _, by rw [q139, q140]; rw [q142], (by rw [q141]; exact (Own.nil 70 2)), hH143⟩
end Go.Q
namespace Go.Q
open Go.Proofs
set_option linter.unusedVariables false
set_option maxRecDepth 100000
attribute [local irreducible] wpList OK Code.wp
set_option maxHeartbeats 4000000 in
theorem tstore_c {E w : World} {R sg : List Hp} {pb db tb : Nat} {d : Dv} {n : Int} (hH : Has E w [sg, [Hp.one pb (.cells #[(.bool d.p.off), (.bool d.p.armed), (.int .i64 d.p.left), (.int .i64 d.p.uses)] 101 (0, 0))], [Hp.one tb (.cells #[(.pointer (some ⟨db, 0, none⟩)), (.int .i64 n)] 98 (0, 0))], R]) (hd : DevAt pb sg db d.la d.lo) {k : Nat} (hf : Few d.p k) (hk : k ≤ 850000) (hlo : d.lo = []) (h4 : d.la.length ≤ 4096) (hg : CellsAt R 1 0 nibV) {a : Pg} (hin : PgIn R a) :
    Calls Tryz.prog 56 #[(.pointer (some ⟨tb, 0, none⟩)), (.agg #[(.int .i64 a.1), (.int .i64 a.2.1), a.2.2.1])] w fun e w' => ∃ sg', e = .returned (.int .i64 (st1 d n a).1) ∧ DevAt pb sg' db (st1 d n a).2.la (st1 d n a).2.lo ∧ Has E w' [sg', [Hp.one pb (.cells #[(.bool ((st1 d n a).2).p.off), (.bool ((st1 d n a).2).p.armed), (.int .i64 ((st1 d n a).2).p.left), (.int .i64 ((st1 d n a).2).p.uses)] 101 (0, 0))], [Hp.one tb (.cells #[(.pointer (some ⟨db, 0, none⟩)), (.int .i64 n)] 98 (0, 0))], R] := by
  have hcn_ := Sl.le hin
  refine c_enter (args := [(.pointer (some ⟨tb, 0, none⟩)), (.agg #[(.int .i64 a.1), (.int .i64 a.2.1), a.2.2.1])]) Tryz.func56 rfl Tryz.ntmps56 (by simp) ?_
  refine wp_seq_k fun K1 hK1 => ?_
  refine c_region ?_
  refine s_op (o_box (cs := #[(.int .i64 a.1), (.int .i64 a.2.1), a.2.2.1]) rfl rfl hH fun b2 w3 hH4 => ?_)
  refine s_op (o_assign (v := (.int .i64 0)) rfl ?_)
  refine s_nil ?_
  refine t_norm (hK1 _ _ ?_)
  refine wp_seq_k fun K5 hK5 => ?_
  refine c_region ?_
  refine s_op (o_loadN (cs := [(.int .i64 a.1), (.int .i64 a.2.1), a.2.2.1]) Tryz.underlying36 rfl ti36 rfl hH4 (seg_sub 0 rfl) (CellsAt.one rfl) ?_)
  refine s_op (o_callf (vs := #[(.agg #[(.int .i64 a.1), (.int .i64 a.2.1), a.2.2.1])]) ca96 rfl (args1 rfl) (plaid_c (no := a.1) (gsn := a.2.1) (l := a.2.2.2) hH4.all (hin.mono (seg_sub 4 rfl)) (hg.mono (seg_sub 4 rfl))) ?_)
  rintro _ w8 ⟨rfl, hX6⟩
  refine ⟨_, rfl, ?_⟩
  have hH7 := hX6.of_all
  have hll_ := laidP_le a.1 a.2.1 a.2.2.2
  refine s_op (o_assign (v := (S (laidP a.1 a.2.1 a.2.2.2))) rfl ?_)
  refine s_nil ?_
  refine t_norm (hK5 _ _ ?_)
  refine wp_seq_k fun K9 hK9 => ?_
  refine wp_seq_k fun K10 hK10 => ?_
  refine Rest.region mixed (by kernel_rfl) ?_
  have hH11 : Has E { w8 with drawn := w8.drawn + 1 } [[Hp.one b2 (.cells #[(.int .i64 a.1), (.int .i64 a.2.1), a.2.2.1] 36 (0, 0))], sg, [Hp.one pb (.cells #[(.bool d.p.off), (.bool d.p.armed), (.int .i64 d.p.left), (.int .i64 d.p.uses)] 101 (0, 0))], [Hp.one tb (.cells #[(.pointer (some ⟨db, 0, none⟩)), (.int .i64 n)] 98 (0, 0))], R] := Has0.drew hH7 _
  refine r_op 0 rfl (by kernel_rfl) (o_move (v := (S (laidP a.1 a.2.1 a.2.2.2))) rfl ?_)
  refine r_op 1 rfl (by kernel_rfl) (o_seql (a := (laidP a.1 a.2.1 a.2.2.2)) (b := ([] : List UInt8)) rfl rfl ?_)
  refine r_op 2 rfl (by kernel_rfl) (o_move (v := (.bool (decide ((laidP a.1 a.2.1 a.2.2.2) = ([] : List UInt8))))) rfl ?_)
  refine Rest.phaseA (fun w_ => Has E w_ [[Hp.one b2 (.cells #[(.int .i64 a.1), (.int .i64 a.2.1), a.2.2.1] 36 (0, 0))], [Hp.one tb (.cells #[(.pointer (some ⟨db, 0, none⟩)), (.int .i64 n)] 98 (0, 0))]]) 3 9 6 rfl (by decide) (by kernel_rfl) ?_
  by_cases h12 : (laidP a.1 a.2.1 a.2.2.2) = ([] : List UInt8)
  · -- (laidP a.1 a.2.1 a.2.2.2) = ([] : List UInt8)
    refine a_off (b' := true) 3 rfl (by kernel_rfl) 13 rfl (congrArg Value.bool (decide_eq_true h12)) rfl ?_
    refine a_off (b' := true) 4 rfl (by kernel_rfl) 13 rfl (congrArg Value.bool (decide_eq_true h12)) rfl ?_
    refine a_off (b' := true) 5 rfl (by kernel_rfl) 13 rfl (congrArg Value.bool (decide_eq_true h12)) rfl ?_
    refine a_off (b' := true) 6 rfl (by kernel_rfl) 13 rfl (congrArg Value.bool (decide_eq_true h12)) rfl ?_
    refine a_off (b' := true) 7 rfl (by kernel_rfl) 13 rfl (congrArg Value.bool (decide_eq_true h12)) rfl ?_
    refine a_off (b' := true) 8 rfl (by kernel_rfl) 13 rfl (congrArg Value.bool (decide_eq_true h12)) rfl ?_
    have hH13 : Has E { w8 with drawn := w8.drawn + 1 } [[Hp.one b2 (.cells #[(.int .i64 a.1), (.int .i64 a.2.1), a.2.2.1] 36 (0, 0))], [Hp.one tb (.cells #[(.pointer (some ⟨db, 0, none⟩)), (.int .i64 n)] 98 (0, 0))]] := ((hH11.front 3 rfl).front 1 rfl).first 2 rfl
    refine a_done (by kernel_rfl) hH13 ?_
    refine r_off (b' := true) 9 rfl (by kernel_rfl) 13 rfl (congrArg Value.bool (decide_eq_true h12)) rfl ?_
    refine r_op 10 rfl (by kernel_rfl) (o_pick_t (u := (.bool true)) ((rfl : _ = _).trans (congrArg Value.bool (decide_eq_true h12))) rfl ?_)
    refine Rest.done (by kernel_rfl) ?_
    refine t_norm (hK10 _ _ ?_)
    refine c_true rfl rfl ?_
    refine wp_seq_k fun K14 hK14 => ?_
    refine c_region ?_
    refine s_op (o_assign (v := (.int .i64 1)) rfl ?_)
    refine s_nil ?_
    refine t_norm (hK14 _ _ ?_)
    refine wp_ret ?_
    refine t_ret (c_ret1 Tryz.results56  (v := (.int .i64 1)) rfl ?_)
    have hH15 : Has E { w8 with drawn := w8.drawn + 1 } [sg, [Hp.one pb (.cells #[(.bool d.p.off), (.bool d.p.armed), (.int .i64 d.p.left), (.int .i64 d.p.uses)] 101 (0, 0))], [Hp.one tb (.cells #[(.pointer (some ⟨db, 0, none⟩)), (.int .i64 n)] 98 (0, 0))], R] := ((((hH11.front 4 rfl).front 4 rfl).front 4 rfl).front 4 rfl).first 4 rfl
    have hE_ : (st1 d n a) = (1, d) := if_pos (.inl h12)
    exact ⟨_, by rw [hE_], by rw [hE_]; exact hd, by rw [hE_]; exact hH15⟩
  · -- not: (laidP a.1 a.2.1 a.2.2.2) = ([] : List UInt8)
    refine a_on 3 rfl (by kernel_rfl) 13 rfl (congrArg Value.bool (decide_eq_false h12)) (fun w_ h_ => o_fieldAddr (k := 0) (fun _ => by kernel_rfl) rfl ⟨rfl, rfl⟩) ?_
    refine a_on 4 rfl (by kernel_rfl) 13 rfl (congrArg Value.bool (decide_eq_false h12)) (fun w_ h_ => o_load1 (v := (.int .i64 a.1)) Tryz.underlying3 rfl rfl h_ (seg_sub 0 rfl) (CellsAt.one rfl) ⟨rfl, rfl⟩) ?_
    refine a_on 5 rfl (by kernel_rfl) 13 rfl (congrArg Value.bool (decide_eq_false h12)) (fun w_ h_ => o_move (v := (.pointer (some ⟨tb, 0, none⟩))) rfl ⟨rfl, rfl⟩) ?_
    refine a_on 6 rfl (by kernel_rfl) 13 rfl (congrArg Value.bool (decide_eq_false h12)) (fun w_ h_ => o_nilCheck rfl ⟨rfl, rfl⟩) ?_
    refine a_on 7 rfl (by kernel_rfl) 13 rfl (congrArg Value.bool (decide_eq_false h12)) (fun w_ h_ => o_fieldAddr (k := 1) (fun _ => by kernel_rfl) rfl ⟨rfl, rfl⟩) ?_
    refine a_on 8 rfl (by kernel_rfl) 13 rfl (congrArg Value.bool (decide_eq_false h12)) (fun w_ h_ => o_load1 (v := (.int .i64 n)) Tryz.underlying3 rfl rfl h_ (seg_sub 1 rfl) (CellsAt.one rfl) ⟨rfl, rfl⟩) ?_
    have hH16 : Has E { w8 with drawn := w8.drawn + 1 } [[Hp.one b2 (.cells #[(.int .i64 a.1), (.int .i64 a.2.1), a.2.2.1] 36 (0, 0))], [Hp.one tb (.cells #[(.pointer (some ⟨db, 0, none⟩)), (.int .i64 n)] 98 (0, 0))]] := ((hH11.front 3 rfl).front 1 rfl).first 2 rfl
    refine a_done (by kernel_rfl) hH16 ?_
    refine r_on 9 rfl (by kernel_rfl) 13 rfl (congrArg Value.bool (decide_eq_false h12)) (o_geq (a := a.1) (b := n) rfl rfl ?_)
    refine r_op 10 rfl (by kernel_rfl) (o_pick_f (u := (.bool (decide (n ≤ a.1)))) ((rfl : _ = _).trans (congrArg Value.bool (decide_eq_false h12))) rfl ?_)
    refine Rest.done (by kernel_rfl) ?_
    refine t_norm (hK10 _ _ ?_)
    refine c_cond rfl (fun h17 => ?_) (fun h17 => ?_)
    · -- n ≤ a.1
      refine wp_seq_k fun K18 hK18 => ?_
      refine c_region ?_
      refine s_op (o_assign (v := (.int .i64 1)) rfl ?_)
      refine s_nil ?_
      refine t_norm (hK18 _ _ ?_)
      refine wp_ret ?_
      refine t_ret (c_ret1 Tryz.results56  (v := (.int .i64 1)) rfl ?_)
      have hH19 : Has E { w8 with drawn := w8.drawn + 1 } [sg, [Hp.one pb (.cells #[(.bool d.p.off), (.bool d.p.armed), (.int .i64 d.p.left), (.int .i64 d.p.uses)] 101 (0, 0))], [Hp.one tb (.cells #[(.pointer (some ⟨db, 0, none⟩)), (.int .i64 n)] 98 (0, 0))], R] := ((((hH11.front 4 rfl).front 4 rfl).front 4 rfl).front 4 rfl).first 4 rfl
      have hE_ : (st1 d n a) = (1, d) := if_pos (.inr h17)
      exact ⟨_, by rw [hE_], by rw [hE_]; exact hd, by rw [hE_]; exact hH19⟩
    · -- not: n ≤ a.1
      have hR_ := lpg_right (a := a) h12
      have hL_ : (laidP a.1 a.2.1 a.2.2.2).length = 256 := laidP_len hR_
      obtain ⟨hn1_, hn2_⟩ := page_no hR_
      refine wp_skip ?_
      refine t_norm (hK9 _ _ ?_)
      refine wp_seq_k fun K20 hK20 => ?_
      refine wp_seq_k fun K21 hK21 => ?_
      refine c_region ?_
      refine s_op (o_move (v := (.pointer (some ⟨tb, 0, none⟩))) rfl ?_)
      refine s_op (o_move (v := (S (laidP a.1 a.2.1 a.2.2.2))) rfl ?_)
      refine s_op (o_callf (vs := #[(.pointer (some ⟨tb, 0, none⟩)), (.int .i64 1), (S (laidP a.1 a.2.1 a.2.2.2))]) ca97 rfl (args3 rfl rfl rfl) (tset_c (d := d) (n := n) (((hH11.front 3 rfl).front 3 rfl).front 3 rfl).all3 hd hf (by omega) (by rw [hlo]; exact LoOk.nil _) h4 (x := 1) (by first | exact ⟨by omega, by omega⟩ | (unfold plc; exact ⟨by omega, by omega⟩)) (s := (laidP a.1 a.2.1 a.2.2.2)) hL_) ?_)
      rintro _ w26 ⟨sg22, rfl, hd23, hX24⟩
      refine ⟨_, rfl, ?_⟩
      have hH25 : Has E w26 [sg22, [Hp.one pb (.cells #[(.bool ((wrsy d (setT 1 (laidP a.1 a.2.1 a.2.2.2))).2).p.off), (.bool ((wrsy d (setT 1 (laidP a.1 a.2.1 a.2.2.2))).2).p.armed), (.int .i64 ((wrsy d (setT 1 (laidP a.1 a.2.1 a.2.2.2))).2).p.left), (.int .i64 ((wrsy d (setT 1 (laidP a.1 a.2.1 a.2.2.2))).2).p.uses)] 101 (0, 0))], [Hp.one tb (.cells #[(.pointer (some ⟨db, 0, none⟩)), (.int .i64 n)] 98 (0, 0))], [Hp.one b2 (.cells #[(.int .i64 a.1), (.int .i64 a.2.1), a.2.2.1] 36 (0, 0))], R] := hX24.of_all3
      refine s_op (o_assign (v := (.int .i64 ((wrsy d (setT 1 (laidP a.1 a.2.1 a.2.2.2))).1))) rfl ?_)
      refine s_nil ?_
      refine t_norm (hK21 _ _ ?_)
      refine wp_seq_k fun K27 hK27 => ?_
      refine c_region ?_
      refine s_op (o_move (v := (.int .i64 ((wrsy d (setT 1 (laidP a.1 a.2.1 a.2.2.2))).1))) rfl ?_)
      refine s_op (o_neq (a := (wrsy d (setT 1 (laidP a.1 a.2.1 a.2.2.2))).1) (b := 0) rfl rfl ?_)
      refine s_nil ?_
      refine t_norm (hK27 _ _ ?_)
      refine c_cond rfl (fun h28 => ?_) (fun h28 => ?_)
      · -- (wrsy d (setT 1 (laidP a.1 a.2.1 a.2.2.2))).1 ≠ 0
        refine wp_seq_k fun K29 hK29 => ?_
        refine c_region ?_
        refine s_op (o_move (v := (.int .i64 ((wrsy d (setT 1 (laidP a.1 a.2.1 a.2.2.2))).1))) rfl ?_)
        refine s_op (o_assign (v := (.int .i64 ((wrsy d (setT 1 (laidP a.1 a.2.1 a.2.2.2))).1))) rfl ?_)
        refine s_nil ?_
        refine t_norm (hK29 _ _ ?_)
        refine wp_ret ?_
        refine t_ret (c_ret1 Tryz.results56  (v := (.int .i64 ((wrsy d (setT 1 (laidP a.1 a.2.1 a.2.2.2))).1))) rfl ?_)
        have hH30 : Has E w26 [sg22, [Hp.one pb (.cells #[(.bool ((wrsy d (setT 1 (laidP a.1 a.2.1 a.2.2.2))).2).p.off), (.bool ((wrsy d (setT 1 (laidP a.1 a.2.1 a.2.2.2))).2).p.armed), (.int .i64 ((wrsy d (setT 1 (laidP a.1 a.2.1 a.2.2.2))).2).p.left), (.int .i64 ((wrsy d (setT 1 (laidP a.1 a.2.1 a.2.2.2))).2).p.uses)] 101 (0, 0))], [Hp.one tb (.cells #[(.pointer (some ⟨db, 0, none⟩)), (.int .i64 n)] 98 (0, 0))], R] := ((((hH25.front 4 rfl).front 3 rfl).front 3 rfl).front 3 rfl).first 4 rfl
        have hE_ : (st1 d n a) = ((wrsy d (setT 1 (laidP a.1 a.2.1 a.2.2.2))).1, (wrsy d (setT 1 (laidP a.1 a.2.1 a.2.2.2))).2) := by rw [show (st1 d n a) = runs d (stG a.1 (laidP a.1 a.2.1 a.2.2.2)) from if_neg (fun g_ => g_.elim h12 h17)]; show runs d [setT 1 (laidP a.1 a.2.1 a.2.2.2), mrkG [a.1 + 1], setT (plc a.1) (laidP a.1 a.2.1 a.2.2.2), mrkG []] = _; rw [runs_stop h28]
        exact ⟨_, by rw [hE_], by rw [hE_]; exact hd23, by rw [hE_]; exact hH30⟩
      · -- not: (wrsy d (setT 1 (laidP a.1 a.2.1 a.2.2.2))).1 ≠ 0
        refine wp_skip ?_
        refine t_norm (hK20 _ _ ?_)
        refine wp_seq_k fun K31 hK31 => ?_
        refine wp_seq_k fun K32 hK32 => ?_
        refine c_region ?_
        refine s_op (o_move (v := (.pointer (some ⟨tb, 0, none⟩))) rfl ?_)
        refine s_op (o_fieldAddr (k := 0) (fun _ => by kernel_rfl) rfl ?_)
        refine s_op (o_load1 (v := (.int .i64 a.1)) Tryz.underlying3 rfl rfl hH25 (seg_sub 3 rfl) (CellsAt.one rfl) ?_)
        refine s_op (o_add (a := a.1) (b := 1) rfl rfl (w64 (by omega) (by omega)) ?_)
        refine s_op (o_buildSlice (ps := #[(0, (.int .i64 (a.1 + 1)))]) (cells := #[(.int .i64 (a.1 + 1))]) Tryz.underlying40 ti3 (by decide) (parts1 rfl) (by kernel_rfl) hH25 fun b33 w34 hH35 => ?_)
        refine s_op (o_callf (vs := #[(.pointer (some ⟨tb, 0, none⟩)), (.slice (some ⟨b33, 0, none⟩) 1 1)]) ca98 rfl (args2 rfl rfl) (tmark_c (d := (wrsy d (setT 1 (laidP a.1 a.2.1 a.2.2.2))).2) (n := n) (((hH35.front 3 rfl).front 3 rfl).front 3 rfl).all3 hd23 ((few_wrsy hf).mono (show _ ≤ k + 5 from Nat.le_refl _)) (by omega) (by rw [wrsy_zero (Classical.not_not.1 h28)]; exact LoOk.nil _) (by simp only [wrsy_len]; exact h4) (l := [a.1 + 1]) ((sl_lit (f := iV) (l := [a.1 + 1]) rfl rfl (by simp)).mono (seg_sub 0 rfl)) (by simp) (by rw [put_len ⟨by omega, by omega⟩]; decide)) ?_)
        rintro _ w40 ⟨sg36, rfl, hd37, hX38⟩
        refine ⟨_, rfl, ?_⟩
        have hH39 : Has E w40 [sg36, [Hp.one pb (.cells #[(.bool ((wrsy ((wrsy d (setT 1 (laidP a.1 a.2.1 a.2.2.2))).2) (mrkG [a.1 + 1])).2).p.off), (.bool ((wrsy ((wrsy d (setT 1 (laidP a.1 a.2.1 a.2.2.2))).2) (mrkG [a.1 + 1])).2).p.armed), (.int .i64 ((wrsy ((wrsy d (setT 1 (laidP a.1 a.2.1 a.2.2.2))).2) (mrkG [a.1 + 1])).2).p.left), (.int .i64 ((wrsy ((wrsy d (setT 1 (laidP a.1 a.2.1 a.2.2.2))).2) (mrkG [a.1 + 1])).2).p.uses)] 101 (0, 0))], [Hp.one tb (.cells #[(.pointer (some ⟨db, 0, none⟩)), (.int .i64 n)] 98 (0, 0))], [Hp.one b33 (.cells #[(.int .i64 (a.1 + 1))] 3 (0, 0))], [Hp.one b2 (.cells #[(.int .i64 a.1), (.int .i64 a.2.1), a.2.2.1] 36 (0, 0))], R] := hX38.of_all3
        refine s_op (o_assign (v := (.int .i64 ((wrsy ((wrsy d (setT 1 (laidP a.1 a.2.1 a.2.2.2))).2) (mrkG [a.1 + 1])).1))) rfl ?_)
        refine s_nil ?_
        refine t_norm (hK32 _ _ ?_)
        refine wp_seq_k fun K41 hK41 => ?_
        refine c_region ?_
        refine s_op (o_move (v := (.int .i64 ((wrsy ((wrsy d (setT 1 (laidP a.1 a.2.1 a.2.2.2))).2) (mrkG [a.1 + 1])).1))) rfl ?_)
        refine s_op (o_neq (a := (wrsy ((wrsy d (setT 1 (laidP a.1 a.2.1 a.2.2.2))).2) (mrkG [a.1 + 1])).1) (b := 0) rfl rfl ?_)
        refine s_nil ?_
        refine t_norm (hK41 _ _ ?_)
        refine c_cond rfl (fun h42 => ?_) (fun h42 => ?_)
        · -- (wrsy ((wrsy d (setT 1 (laidP a.1 a.2.1 a.2.2.2))).2) (mrkG [a.1 + 1])).1 ≠ 0
          refine wp_seq_k fun K43 hK43 => ?_
          refine c_region ?_
          refine s_op (o_move (v := (.int .i64 ((wrsy ((wrsy d (setT 1 (laidP a.1 a.2.1 a.2.2.2))).2) (mrkG [a.1 + 1])).1))) rfl ?_)
          refine s_op (o_assign (v := (.int .i64 ((wrsy ((wrsy d (setT 1 (laidP a.1 a.2.1 a.2.2.2))).2) (mrkG [a.1 + 1])).1))) rfl ?_)
          refine s_nil ?_
          refine t_norm (hK43 _ _ ?_)
          refine wp_ret ?_
          refine t_ret (c_ret1 Tryz.results56  (v := (.int .i64 ((wrsy ((wrsy d (setT 1 (laidP a.1 a.2.1 a.2.2.2))).2) (mrkG [a.1 + 1])).1))) rfl ?_)
          have hH44 : Has E w40 [sg36, [Hp.one pb (.cells #[(.bool ((wrsy ((wrsy d (setT 1 (laidP a.1 a.2.1 a.2.2.2))).2) (mrkG [a.1 + 1])).2).p.off), (.bool ((wrsy ((wrsy d (setT 1 (laidP a.1 a.2.1 a.2.2.2))).2) (mrkG [a.1 + 1])).2).p.armed), (.int .i64 ((wrsy ((wrsy d (setT 1 (laidP a.1 a.2.1 a.2.2.2))).2) (mrkG [a.1 + 1])).2).p.left), (.int .i64 ((wrsy ((wrsy d (setT 1 (laidP a.1 a.2.1 a.2.2.2))).2) (mrkG [a.1 + 1])).2).p.uses)] 101 (0, 0))], [Hp.one tb (.cells #[(.pointer (some ⟨db, 0, none⟩)), (.int .i64 n)] 98 (0, 0))], R] := ((((hH39.front 5 rfl).front 3 rfl).front 3 rfl).front 3 rfl).first 4 rfl
          have hE_ : (st1 d n a) = ((wrsy ((wrsy d (setT 1 (laidP a.1 a.2.1 a.2.2.2))).2) (mrkG [a.1 + 1])).1, (wrsy ((wrsy d (setT 1 (laidP a.1 a.2.1 a.2.2.2))).2) (mrkG [a.1 + 1])).2) := by rw [show (st1 d n a) = runs d (stG a.1 (laidP a.1 a.2.1 a.2.2.2)) from if_neg (fun g_ => g_.elim h12 h17)]; show runs d [setT 1 (laidP a.1 a.2.1 a.2.2.2), mrkG [a.1 + 1], setT (plc a.1) (laidP a.1 a.2.1 a.2.2.2), mrkG []] = _; rw [runs_go (Classical.not_not.1 h28), runs_stop h42]
          exact ⟨_, by rw [hE_], by rw [hE_]; exact hd37, by rw [hE_]; exact hH44⟩
        · -- not: (wrsy ((wrsy d (setT 1 (laidP a.1 a.2.1 a.2.2.2))).2) (mrkG [a.1 + 1])).1 ≠ 0
          refine wp_skip ?_
          refine t_norm (hK31 _ _ ?_)
          refine wp_seq_k fun K45 hK45 => ?_
          refine wp_seq_k fun K46 hK46 => ?_
          refine c_region ?_
          refine s_op (o_move (v := (.pointer (some ⟨tb, 0, none⟩))) rfl ?_)
          refine s_op (o_fieldAddr (k := 0) (fun _ => by kernel_rfl) rfl ?_)
          refine s_op (o_load1 (v := (.int .i64 a.1)) Tryz.underlying3 rfl rfl hH39 (seg_sub 4 rfl) (CellsAt.one rfl) ?_)
          refine s_op (o_callf (vs := #[(.int .i64 a.1)]) ca64 rfl (args1 rfl) (place_c hH39.all (x := a.1) ⟨by omega, by omega⟩) ?_)
          rintro _ w49 ⟨rfl, hX47⟩
          refine ⟨_, rfl, ?_⟩
          have hH48 := hX47.of_all
          refine s_op (o_move (v := (S (laidP a.1 a.2.1 a.2.2.2))) rfl ?_)
          refine s_op (o_callf (vs := #[(.pointer (some ⟨tb, 0, none⟩)), (.int .i64 (plc a.1)), (S (laidP a.1 a.2.1 a.2.2.2))]) ca97 rfl (args3 rfl rfl rfl) (tset_c (d := (wrsy ((wrsy d (setT 1 (laidP a.1 a.2.1 a.2.2.2))).2) (mrkG [a.1 + 1])).2) (n := n) (((hH48.front 2 rfl).front 2 rfl).front 2 rfl).all3 hd37 ((few_wrsy ((few_wrsy hf).mono (show _ ≤ k + 5 from Nat.le_refl _))).mono (show _ ≤ k + 5 + 2 from Nat.le_refl _)) (by omega) (by rw [wrsy_zero (Classical.not_not.1 h42)]; exact LoOk.nil _) (by simp only [wrsy_len]; exact h4) (x := plc a.1) (by first | exact ⟨by omega, by omega⟩ | (unfold plc; exact ⟨by omega, by omega⟩)) (s := (laidP a.1 a.2.1 a.2.2.2)) hL_) ?_)
          rintro _ w54 ⟨sg50, rfl, hd51, hX52⟩
          refine ⟨_, rfl, ?_⟩
          have hH53 : Has E w54 [sg50, [Hp.one pb (.cells #[(.bool ((wrsy ((wrsy ((wrsy d (setT 1 (laidP a.1 a.2.1 a.2.2.2))).2) (mrkG [a.1 + 1])).2) (setT (plc a.1) (laidP a.1 a.2.1 a.2.2.2))).2).p.off), (.bool ((wrsy ((wrsy ((wrsy d (setT 1 (laidP a.1 a.2.1 a.2.2.2))).2) (mrkG [a.1 + 1])).2) (setT (plc a.1) (laidP a.1 a.2.1 a.2.2.2))).2).p.armed), (.int .i64 ((wrsy ((wrsy ((wrsy d (setT 1 (laidP a.1 a.2.1 a.2.2.2))).2) (mrkG [a.1 + 1])).2) (setT (plc a.1) (laidP a.1 a.2.1 a.2.2.2))).2).p.left), (.int .i64 ((wrsy ((wrsy ((wrsy d (setT 1 (laidP a.1 a.2.1 a.2.2.2))).2) (mrkG [a.1 + 1])).2) (setT (plc a.1) (laidP a.1 a.2.1 a.2.2.2))).2).p.uses)] 101 (0, 0))], [Hp.one tb (.cells #[(.pointer (some ⟨db, 0, none⟩)), (.int .i64 n)] 98 (0, 0))], [Hp.one b33 (.cells #[(.int .i64 (a.1 + 1))] 3 (0, 0))], [Hp.one b2 (.cells #[(.int .i64 a.1), (.int .i64 a.2.1), a.2.2.1] 36 (0, 0))], R] := hX52.of_all3
          refine s_op (o_assign (v := (.int .i64 ((wrsy ((wrsy ((wrsy d (setT 1 (laidP a.1 a.2.1 a.2.2.2))).2) (mrkG [a.1 + 1])).2) (setT (plc a.1) (laidP a.1 a.2.1 a.2.2.2))).1))) rfl ?_)
          refine s_nil ?_
          refine t_norm (hK46 _ _ ?_)
          refine wp_seq_k fun K55 hK55 => ?_
          refine c_region ?_
          refine s_op (o_move (v := (.int .i64 ((wrsy ((wrsy ((wrsy d (setT 1 (laidP a.1 a.2.1 a.2.2.2))).2) (mrkG [a.1 + 1])).2) (setT (plc a.1) (laidP a.1 a.2.1 a.2.2.2))).1))) rfl ?_)
          refine s_op (o_neq (a := (wrsy ((wrsy ((wrsy d (setT 1 (laidP a.1 a.2.1 a.2.2.2))).2) (mrkG [a.1 + 1])).2) (setT (plc a.1) (laidP a.1 a.2.1 a.2.2.2))).1) (b := 0) rfl rfl ?_)
          refine s_nil ?_
          refine t_norm (hK55 _ _ ?_)
          refine c_cond rfl (fun h56 => ?_) (fun h56 => ?_)
          · -- (wrsy ((wrsy ((wrsy d (setT 1 (laidP a.1 a.2.1 a.2.2.2))).2) (mrkG [a.1 + 1])).2) (setT (plc a.1) (laidP a.1 a.2.1 a.2.2.2))).1 ≠ 0
            refine wp_seq_k fun K57 hK57 => ?_
            refine c_region ?_
            refine s_op (o_move (v := (.int .i64 ((wrsy ((wrsy ((wrsy d (setT 1 (laidP a.1 a.2.1 a.2.2.2))).2) (mrkG [a.1 + 1])).2) (setT (plc a.1) (laidP a.1 a.2.1 a.2.2.2))).1))) rfl ?_)
            refine s_op (o_assign (v := (.int .i64 ((wrsy ((wrsy ((wrsy d (setT 1 (laidP a.1 a.2.1 a.2.2.2))).2) (mrkG [a.1 + 1])).2) (setT (plc a.1) (laidP a.1 a.2.1 a.2.2.2))).1))) rfl ?_)
            refine s_nil ?_
            refine t_norm (hK57 _ _ ?_)
            refine wp_ret ?_
            refine t_ret (c_ret1 Tryz.results56  (v := (.int .i64 ((wrsy ((wrsy ((wrsy d (setT 1 (laidP a.1 a.2.1 a.2.2.2))).2) (mrkG [a.1 + 1])).2) (setT (plc a.1) (laidP a.1 a.2.1 a.2.2.2))).1))) rfl ?_)
            have hH58 : Has E w54 [sg50, [Hp.one pb (.cells #[(.bool ((wrsy ((wrsy ((wrsy d (setT 1 (laidP a.1 a.2.1 a.2.2.2))).2) (mrkG [a.1 + 1])).2) (setT (plc a.1) (laidP a.1 a.2.1 a.2.2.2))).2).p.off), (.bool ((wrsy ((wrsy ((wrsy d (setT 1 (laidP a.1 a.2.1 a.2.2.2))).2) (mrkG [a.1 + 1])).2) (setT (plc a.1) (laidP a.1 a.2.1 a.2.2.2))).2).p.armed), (.int .i64 ((wrsy ((wrsy ((wrsy d (setT 1 (laidP a.1 a.2.1 a.2.2.2))).2) (mrkG [a.1 + 1])).2) (setT (plc a.1) (laidP a.1 a.2.1 a.2.2.2))).2).p.left), (.int .i64 ((wrsy ((wrsy ((wrsy d (setT 1 (laidP a.1 a.2.1 a.2.2.2))).2) (mrkG [a.1 + 1])).2) (setT (plc a.1) (laidP a.1 a.2.1 a.2.2.2))).2).p.uses)] 101 (0, 0))], [Hp.one tb (.cells #[(.pointer (some ⟨db, 0, none⟩)), (.int .i64 n)] 98 (0, 0))], R] := ((((hH53.front 5 rfl).front 3 rfl).front 3 rfl).front 3 rfl).first 4 rfl
            have hE_ : (st1 d n a) = ((wrsy ((wrsy ((wrsy d (setT 1 (laidP a.1 a.2.1 a.2.2.2))).2) (mrkG [a.1 + 1])).2) (setT (plc a.1) (laidP a.1 a.2.1 a.2.2.2))).1, (wrsy ((wrsy ((wrsy d (setT 1 (laidP a.1 a.2.1 a.2.2.2))).2) (mrkG [a.1 + 1])).2) (setT (plc a.1) (laidP a.1 a.2.1 a.2.2.2))).2) := by rw [show (st1 d n a) = runs d (stG a.1 (laidP a.1 a.2.1 a.2.2.2)) from if_neg (fun g_ => g_.elim h12 h17)]; show runs d [setT 1 (laidP a.1 a.2.1 a.2.2.2), mrkG [a.1 + 1], setT (plc a.1) (laidP a.1 a.2.1 a.2.2.2), mrkG []] = _; rw [runs_go (Classical.not_not.1 h28), runs_go (Classical.not_not.1 h42), runs_stop h56]
            exact ⟨_, by rw [hE_], by rw [hE_]; exact hd51, by rw [hE_]; exact hH58⟩
          · -- not: (wrsy ((wrsy ((wrsy d (setT 1 (laidP a.1 a.2.1 a.2.2.2))).2) (mrkG [a.1 + 1])).2) (setT (plc a.1) (laidP a.1 a.2.1 a.2.2.2))).1 ≠ 0
            refine wp_skip ?_
            refine t_norm (hK45 _ _ ?_)
            refine wp_seq_k fun K59 hK59 => ?_
            refine c_region ?_
            refine s_op (o_move (v := (.pointer (some ⟨tb, 0, none⟩))) rfl ?_)
            refine s_op (o_callf (vs := #[(.pointer (some ⟨tb, 0, none⟩)), (.slice none 0 0)]) ca98 rfl (args2 rfl rfl) (tmark_c (d := (wrsy ((wrsy ((wrsy d (setT 1 (laidP a.1 a.2.1 a.2.2.2))).2) (mrkG [a.1 + 1])).2) (setT (plc a.1) (laidP a.1 a.2.1 a.2.2.2))).2) (n := n) (((hH53.front 2 rfl).front 2 rfl).front 2 rfl).all3 hd51 ((few_wrsy ((few_wrsy ((few_wrsy hf).mono (show _ ≤ k + 5 from Nat.le_refl _))).mono (show _ ≤ k + 5 + 2 from Nat.le_refl _))).mono (show _ ≤ k + 5 + 2 + 5 from Nat.le_refl _)) (by omega) (by rw [wrsy_zero (Classical.not_not.1 h56)]; exact LoOk.nil _) (by simp only [wrsy_len]; exact h4) (l := ([] : List Int)) (sl_nil 1) (by simp) (by rw [put_nil]; decide)) ?_)
            rintro _ w65 ⟨sg60, rfl, hd61, hX62⟩
            refine ⟨_, rfl, ?_⟩
            have hH63 : Has E w65 [sg60, [Hp.one pb (.cells #[(.bool ((wrsy ((wrsy ((wrsy ((wrsy d (setT 1 (laidP a.1 a.2.1 a.2.2.2))).2) (mrkG [a.1 + 1])).2) (setT (plc a.1) (laidP a.1 a.2.1 a.2.2.2))).2) (mrkG [])).2).p.off), (.bool ((wrsy ((wrsy ((wrsy ((wrsy d (setT 1 (laidP a.1 a.2.1 a.2.2.2))).2) (mrkG [a.1 + 1])).2) (setT (plc a.1) (laidP a.1 a.2.1 a.2.2.2))).2) (mrkG [])).2).p.armed), (.int .i64 ((wrsy ((wrsy ((wrsy ((wrsy d (setT 1 (laidP a.1 a.2.1 a.2.2.2))).2) (mrkG [a.1 + 1])).2) (setT (plc a.1) (laidP a.1 a.2.1 a.2.2.2))).2) (mrkG [])).2).p.left), (.int .i64 ((wrsy ((wrsy ((wrsy ((wrsy d (setT 1 (laidP a.1 a.2.1 a.2.2.2))).2) (mrkG [a.1 + 1])).2) (setT (plc a.1) (laidP a.1 a.2.1 a.2.2.2))).2) (mrkG [])).2).p.uses)] 101 (0, 0))], [Hp.one tb (.cells #[(.pointer (some ⟨db, 0, none⟩)), (.int .i64 n)] 98 (0, 0))], [Hp.one b33 (.cells #[(.int .i64 (a.1 + 1))] 3 (0, 0))], [Hp.one b2 (.cells #[(.int .i64 a.1), (.int .i64 a.2.1), a.2.2.1] 36 (0, 0))], R] := hX62.of_all3
            refine s_op (o_assign (v := (.int .i64 ((wrsy ((wrsy ((wrsy ((wrsy d (setT 1 (laidP a.1 a.2.1 a.2.2.2))).2) (mrkG [a.1 + 1])).2) (setT (plc a.1) (laidP a.1 a.2.1 a.2.2.2))).2) (mrkG [])).1))) rfl ?_)
            refine s_nil ?_
            refine t_norm (hK59 _ _ ?_)
            refine wp_ret ?_
            refine c_ret1 Tryz.results56  (v := (.int .i64 ((wrsy ((wrsy ((wrsy ((wrsy d (setT 1 (laidP a.1 a.2.1 a.2.2.2))).2) (mrkG [a.1 + 1])).2) (setT (plc a.1) (laidP a.1 a.2.1 a.2.2.2))).2) (mrkG [])).1))) rfl ?_
            have hH66 : Has E w65 [sg60, [Hp.one pb (.cells #[(.bool ((wrsy ((wrsy ((wrsy ((wrsy d (setT 1 (laidP a.1 a.2.1 a.2.2.2))).2) (mrkG [a.1 + 1])).2) (setT (plc a.1) (laidP a.1 a.2.1 a.2.2.2))).2) (mrkG [])).2).p.off), (.bool ((wrsy ((wrsy ((wrsy ((wrsy d (setT 1 (laidP a.1 a.2.1 a.2.2.2))).2) (mrkG [a.1 + 1])).2) (setT (plc a.1) (laidP a.1 a.2.1 a.2.2.2))).2) (mrkG [])).2).p.armed), (.int .i64 ((wrsy ((wrsy ((wrsy ((wrsy d (setT 1 (laidP a.1 a.2.1 a.2.2.2))).2) (mrkG [a.1 + 1])).2) (setT (plc a.1) (laidP a.1 a.2.1 a.2.2.2))).2) (mrkG [])).2).p.left), (.int .i64 ((wrsy ((wrsy ((wrsy ((wrsy d (setT 1 (laidP a.1 a.2.1 a.2.2.2))).2) (mrkG [a.1 + 1])).2) (setT (plc a.1) (laidP a.1 a.2.1 a.2.2.2))).2) (mrkG [])).2).p.uses)] 101 (0, 0))], [Hp.one tb (.cells #[(.pointer (some ⟨db, 0, none⟩)), (.int .i64 n)] 98 (0, 0))], R] := ((((hH63.front 5 rfl).front 3 rfl).front 3 rfl).front 3 rfl).first 4 rfl
            have hE_ : (st1 d n a) = ((wrsy ((wrsy ((wrsy ((wrsy d (setT 1 (laidP a.1 a.2.1 a.2.2.2))).2) (mrkG [a.1 + 1])).2) (setT (plc a.1) (laidP a.1 a.2.1 a.2.2.2))).2) (mrkG [])).1, (wrsy ((wrsy ((wrsy ((wrsy d (setT 1 (laidP a.1 a.2.1 a.2.2.2))).2) (mrkG [a.1 + 1])).2) (setT (plc a.1) (laidP a.1 a.2.1 a.2.2.2))).2) (mrkG [])).2) := by rw [show (st1 d n a) = runs d (stG a.1 (laidP a.1 a.2.1 a.2.2.2)) from if_neg (fun g_ => g_.elim h12 h17)]; show runs d [setT 1 (laidP a.1 a.2.1 a.2.2.2), mrkG [a.1 + 1], setT (plc a.1) (laidP a.1 a.2.1 a.2.2.2), mrkG []] = _; rw [runs_go (Classical.not_not.1 h28), runs_go (Classical.not_not.1 h42), runs_go (Classical.not_not.1 h56), runs_last]
            exact ⟨_, by rw [hE_], by rw [hE_]; exact hd61, by rw [hE_]; exact hH66⟩
end Go.Q
namespace Go.Q
open Go.Proofs
set_option linter.unusedVariables false
set_option maxRecDepth 100000
attribute [local irreducible] wpList OK Code.wp
set_option maxHeartbeats 4000000 in
theorem tstoreL_c {E w : World} {R sg : List Hp} {pb db tb : Nat} {d : Dv} {n : Int} (hH : Has E w [sg, [Hp.one pb (.cells #[(.bool d.p.off), (.bool d.p.armed), (.int .i64 d.p.left), (.int .i64 d.p.uses)] 101 (0, 0))], [Hp.one tb (.cells #[(.pointer (some ⟨db, 0, none⟩)), (.int .i64 n)] 98 (0, 0))], R]) (hd : DevAt pb sg db d.la d.lo) {k : Nat} (hf : Few d.p k) (hk : k ≤ 800000) (hlo : d.lo = []) (h4 : d.la.length ≤ 4096) (hg : CellsAt R 1 0 nibV) {v : Value} {l : List Pg} (hv : Sl R 3 v l.length (l.flatMap pgC)) (hok : ∀ a ∈ l, PgIn R a) (hll : l.length ≤ 1000) :
    Calls Tryz.prog 18 #[(.pointer (some ⟨tb, 0, none⟩)), v] w fun e w' => ∃ sg', e = .returned (.int .i64 (stL d n l).1) ∧ DevAt pb sg' db (stL d n l).2.la (stL d n l).2.lo ∧ Has E w' [sg', [Hp.one pb (.cells #[(.bool ((stL d n l).2).p.off), (.bool ((stL d n l).2).p.armed), (.int .i64 ((stL d n l).2).p.left), (.int .i64 ((stL d n l).2).p.uses)] 101 (0, 0))], [Hp.one tb (.cells #[(.pointer (some ⟨db, 0, none⟩)), (.int .i64 n)] 98 (0, 0))], R] := by
  have hn_ := hv.le
  refine c_enter (args := [(.pointer (some ⟨tb, 0, none⟩)), v]) Tryz.func18 rfl Tryz.ntmps18 (by simp) ?_
  refine wp_seq_k fun K1 hK1 => ?_
  refine c_region ?_
  refine s_op (o_assign (v := (.int .i64 0)) rfl ?_)
  refine s_nil ?_
  refine t_norm (hK1 _ _ ?_)
  refine wp_seq_k fun K2 hK2 => ?_
  refine wp_seq_k fun K3 hK3 => ?_
  refine c_region ?_
  refine s_op (o_move (v := (.pointer (some ⟨tb, 0, none⟩))) rfl ?_)
  refine s_op (o_pnil (p := some _) Tryz.underlying25 rfl rfl ?_)
  refine s_nil ?_
  refine t_norm (hK3 _ _ ?_)
  refine c_false rfl rfl ?_
  refine wp_skip ?_
  refine t_norm (hK2 _ _ ?_)
  refine wp_seq_k fun K4 hK4 => ?_
  refine wp_seq_k fun K5 hK5 => ?_
  refine c_region ?_
  refine s_op (o_move (v := v) rfl ?_)
  refine s_op (o_lenS Tryz.underlying31 rfl hv ?_)
  refine s_op (o_move (v := (.int .i64 0)) rfl ?_)
  refine s_nil ?_
  refine t_norm (hK5 _ _ ?_)
  refine wp_block ?_
  let I7 : Nat → (Nat → Value) → World → Prop := fun n__ r__ w__ => ∃ (i : Nat) (dc : Dv) (sgc : List Hp), n__ = l.length - i ∧ Has E w__ [sgc, [Hp.one pb (.cells #[(.bool dc.p.off), (.bool dc.p.armed), (.int .i64 dc.p.left), (.int .i64 dc.p.uses)] 101 (0, 0))], [Hp.one tb (.cells #[(.pointer (some ⟨db, 0, none⟩)), (.int .i64 n)] 98 (0, 0))], R] ∧ (i ≤ l.length) ∧ (DevAt pb sgc db dc.la dc.lo) ∧ (Few dc.p (k + 14 * i)) ∧ (dc.lo = []) ∧ (dc.la.length = d.la.length) ∧ (stL d n l = stL dc n (l.drop i)) ∧ r__ 0 = (.pointer (some ⟨tb, 0, none⟩)) ∧ r__ 1 = v ∧ r__ 9 = (.bool false) ∧ r__ 10 = v ∧ r__ 11 = (.int .i64 ((l.length : Nat) : Int)) ∧ r__ 12 = (.int .i64 (i : Int))
  refine c_loop I7 _ ⟨0, d, sg, rfl, hH, Nat.zero_le _, hd, hf, hlo, rfl, rfl, rfl, rfl, rfl, rfl, rfl, rfl⟩ ?_
  rintro n_ r10 w8 ⟨i, dc, sgc, rfl, hH9, hi, hdc, hfc, hlc, hnc, hst, e6_0, e6_1, e6_9, e6_10, e6_11, e6_12⟩
  refine wp_seq_k fun K11 hK11 => ?_
  refine c_region ?_
  refine s_op (o_lss (a := (i : Int)) (b := ((l.length : Nat) : Int)) e6_12 e6_11 ?_)
  refine s_nil ?_
  refine t_norm (hK11 _ _ ?_)
  refine wp_seq_k fun K12 hK12 => ?_
  refine c_cond rfl (fun h13 => ?_) (fun h13 => ?_)
  · -- (i : Int) < ((l.length : Nat) : Int)
    refine wp_skip ?_
    refine t_norm (hK12 _ _ ?_)
    refine wp_seq_k fun K14 hK14 => ?_
    refine wp_block ?_
    refine wp_seq_k fun K15 hK15 => ?_
    refine c_region ?_
    obtain ⟨x19, hx20⟩ : ∃ x_, l[((i : Int)).toNat]? = some x_ := get_some (by omega)
    refine s_op (o_indexF pgC_len Tryz.underlying31 ti36 e6_10 hv rfl e6_12 (by omega) hx20 fun b16 o17 hc18 => ?_)
    refine s_op (o_loadN (cs := [(.int .i64 x19.1), (.int .i64 x19.2.1), x19.2.2.1]) Tryz.underlying36 rfl ti36 rfl hH9 (seg_sub 3 rfl) hc18 ?_)
    refine s_op (o_alloc (cs := #[(.int .i64 0), (.int .i64 0), (.slice none 0 0)]) ti36 rfl hH9 fun b21 w22 hH23 => ?_)
    refine s_eff (o_storeN (vs := [(.int .i64 x19.1), (.int .i64 x19.2.1), x19.2.2.1]) (c' := #[(.int .i64 x19.1), (.int .i64 x19.2.1), x19.2.2.1]) ti36 rfl rfl rfl rfl (by intro u hu; simp only [List.mem_cons, List.not_mem_nil, or_false] at hu; rcases hu with rfl | rfl | rfl <;> first | rfl | exact (hok x19 (List.mem_of_getElem? hx20)).one) (by simp) (by kernel_rfl) (hH23.front 0 rfl) fun w24 hH25 => ?_)
    refine s_nil ?_
    refine t_norm (hK15 _ _ ?_)
    refine wp_seq_k fun K26 hK26 => ?_
    refine c_region ?_
    refine s_op (o_move (v := (.pointer (some ⟨tb, 0, none⟩))) e6_0 ?_)
    refine s_op (o_loadN (cs := [(.int .i64 x19.1), (.int .i64 x19.2.1), x19.2.2.1]) Tryz.underlying36 rfl ti36 rfl hH25 (seg_sub 0 rfl) (CellsAt.one rfl) ?_)
    refine s_op (o_callf (vs := #[(.pointer (some ⟨tb, 0, none⟩)), (.agg #[(.int .i64 x19.1), (.int .i64 x19.2.1), x19.2.2.1])]) ca56 rfl (args2 rfl rfl) (tstore_c (d := dc) (n := n) (((hH25.front 3 rfl).front 3 rfl).front 3 rfl).all3 hdc hfc (by omega) hlc (by rw [hnc]; exact h4) (hg.mono (seg_sub 1 rfl)) (a := x19) (PgIn.mono (hok x19 (List.mem_of_getElem? hx20)) (seg_sub 1 rfl))) ?_)
    rintro _ w31 ⟨sg27, rfl, hd28, hX29⟩
    refine ⟨_, rfl, ?_⟩
    have hH30 : Has E w31 [sg27, [Hp.one pb (.cells #[(.bool ((st1 dc n x19).2).p.off), (.bool ((st1 dc n x19).2).p.armed), (.int .i64 ((st1 dc n x19).2).p.left), (.int .i64 ((st1 dc n x19).2).p.uses)] 101 (0, 0))], [Hp.one tb (.cells #[(.pointer (some ⟨db, 0, none⟩)), (.int .i64 n)] 98 (0, 0))], [Hp.one b21 (.cells #[(.int .i64 x19.1), (.int .i64 x19.2.1), x19.2.2.1] 36 (0, 0))], R] := hX29.of_all3
    refine s_op (o_assign (v := (.int .i64 ((st1 dc n x19).1))) rfl ?_)
    refine s_nil ?_
    refine t_norm (hK26 _ _ ?_)
    refine wp_seq_k fun K32 hK32 => ?_
    refine c_region ?_
    refine s_op (o_move (v := (.int .i64 ((st1 dc n x19).1))) rfl ?_)
    refine s_op (o_neq (a := (st1 dc n x19).1) (b := 0) rfl rfl ?_)
    refine s_nil ?_
    refine t_norm (hK32 _ _ ?_)
    refine c_cond rfl (fun h33 => ?_) (fun h33 => ?_)
    · -- (st1 dc n x19).1 ≠ 0
      refine wp_seq_k fun K34 hK34 => ?_
      refine c_region ?_
      refine s_op (o_move (v := (.int .i64 ((st1 dc n x19).1))) rfl ?_)
      refine s_op (o_assign (v := (.int .i64 ((st1 dc n x19).1))) rfl ?_)
      refine s_nil ?_
      refine t_norm (hK34 _ _ ?_)
      refine wp_ret ?_
      refine b_ret (t_ret (t_ret (b_ret (t_ret (c_ret1 Tryz.results18  (v := (.int .i64 ((st1 dc n x19).1))) rfl ?_)))))
      have hH35 : Has E w31 [sg27, [Hp.one pb (.cells #[(.bool ((st1 dc n x19).2).p.off), (.bool ((st1 dc n x19).2).p.armed), (.int .i64 ((st1 dc n x19).2).p.left), (.int .i64 ((st1 dc n x19).2).p.uses)] 101 (0, 0))], [Hp.one tb (.cells #[(.pointer (some ⟨db, 0, none⟩)), (.int .i64 n)] 98 (0, 0))], R] := ((((hH30.front 4 rfl).front 3 rfl).front 3 rfl).front 3 rfl).first 4 rfl
      have hE_ : (stL d n l) = (st1 dc n x19) := stL_stop (show l[i]? = some _ from hx20) hst h33
      exact ⟨_, by rw [hE_], by rw [hE_]; exact hd28, by rw [hE_]; exact hH35⟩
    · -- not: (st1 dc n x19).1 ≠ 0
      refine wp_skip ?_
      refine b_norm ?_
      refine t_norm (hK14 _ _ ?_)
      refine c_region ?_
      refine s_op (o_add (a := (i : Int)) (b := 1) e6_12 rfl (w64 (by omega) (by omega)) ?_)
      refine s_op (o_move (v := (.int .i64 ((i : Int) + 1))) rfl ?_)
      refine s_nil ?_
      have hH36 : Has E w31 [sg27, [Hp.one pb (.cells #[(.bool ((st1 dc n x19).2).p.off), (.bool ((st1 dc n x19).2).p.armed), (.int .i64 ((st1 dc n x19).2).p.left), (.int .i64 ((st1 dc n x19).2).p.uses)] 101 (0, 0))], [Hp.one tb (.cells #[(.pointer (some ⟨db, 0, none⟩)), (.int .i64 n)] 98 (0, 0))], R] := ((((hH30.front 4 rfl).front 3 rfl).front 3 rfl).front 3 rfl).first 4 rfl
      refine t_norm ⟨l.length - (i + 1), _, rfl, ?_, ?_⟩
      · omega
      · exact ⟨(i + 1), ((st1 dc n x19).2), sg27, rfl, hH36, (by omega), (hd28), ((few_st1 hfc).mono (by omega)), (st1_zero hlc (Classical.not_not.1 h33)), (by rw [st1_len]; exact hnc), (stL_go (show l[i]? = some _ from hx20) hst (Classical.not_not.1 h33)), e6_0, e6_1, e6_9, e6_10, e6_11, rfl⟩
  · -- not: (i : Int) < ((l.length : Nat) : Int)
    refine wp_exit ?_
    refine t_exit (t_exit (x_in (?_)))
    refine t_norm (hK4 _ _ ?_)
    refine wp_seq_k fun K37 hK37 => ?_
    refine c_region ?_
    refine s_op (o_assign (v := (.int .i64 0)) rfl ?_)
    refine s_nil ?_
    refine t_norm (hK37 _ _ ?_)
    refine wp_ret ?_
    refine c_ret1 Tryz.results18  (v := (.int .i64 0)) rfl ?_
    have hE_ : (stL d n l) = (0, dc) := by rw [hst, List.drop_of_length_le (by omega)]; rfl
    exact ⟨_, by rw [hE_], by rw [hE_]; exact hdc, by rw [hE_]; exact hH9⟩
end Go.Q
namespace Go.Q
theorem full_settle {lo : List (Int × Bs)} {k : Nat} (hl : LoOk lo k) : ∀ (keep : List Int) (la : List Bs), Full64 la → Full64 (settleS lo la keep)
  | [], la, h => h
  | m :: keep, la, h => by
    have e : settleS lo la (m :: keep) = settleS lo (match getB lo m with | some s => la.set m.toNat s | none => la) keep := rfl
    rw [e]
    cases g : getB lo m with
    | none => exact full_settle hl keep la h
    | some x =>
      refine full_settle hl keep _ ?_
      intro s hs
      rcases List.mem_or_eq_of_mem_set hs with hs | rfl
      · exact h s hs
      · exact (hl _ (getB_some g)).2
theorem full_wrsy {d : Dv} {g : Grp} (hl : LoOk d.lo d.la.length) (h : Full64 d.la) : Full64 (wrsy d g).2.la := by
  unfold wrsy
  split
  · show Full64 (syncA _ _ _)
    unfold syncA
    split
    · exact full_settle (lo_wrs g d hl) _ _ (by rw [wrs_la]; exact h)
    · rw [wrs_la]; exact h
  · rw [wrs_la]; exact h
theorem full_runs : ∀ (gs : List Grp) (d : Dv), d.lo = [] → Full64 d.la → Full64 (runs d gs).2.la
  | [], _, _, h => h
  | g :: t, d, hl, h => by
    have e : runs d (g :: t) = if (wrsy d g).1 = 0 then runs (wrsy d g).2 t else wrsy d g := rfl
    have hg := full_wrsy (g := g) (by rw [hl]; exact LoOk.nil _) h
    rw [e]
    split
    · rename_i h0; exact full_runs t _ (wrsy_zero h0) hg
    · exact hg
theorem full_st1 {d : Dv} {n : Int} {a : Pg} (hl : d.lo = []) (h : Full64 d.la) : Full64 (st1 d n a).2.la := by
  unfold st1
  split
  · exact h
  · exact full_runs _ _ hl h
/-- a power that nobody armed -/
theorem wrs_ne6 : ∀ (g : Grp) (d : Dv), d.p.off = false → d.p.armed = false → (wrs d g).1 ≠ 6 ∧ (wrs d g).2.p.off = false ∧ (wrs d g).2.p.armed = false
  | [], _, h1, h2 => ⟨(show (0 : Int) ≠ 6 by decide), h1, h2⟩
  | (n, s) :: t, d, h1, h2 => by
    have hb : useB d.p = true ∧ (useS d.p).off = false ∧ (useS d.p).armed = false := by
      unfold useB useS
      rw [h1, h2]
      exact ⟨rfl, rfl, rfl⟩
    have e : wrs d ((n, s) :: t) = if d.wrE n s = 0 then wrs (d.wr n s) t else (d.wrE n s, d.wr n s) := rfl
    rw [e]
    split
    · exact wrs_ne6 t (d.wr n s) hb.2.1 hb.2.2
    · refine ⟨?_, hb.2.1, hb.2.2⟩
      unfold Dv.wrE writeE
      rw [if_pos hb.1]
      split
      · show (0 : Int) ≠ 6; decide
      · show (1 : Int) ≠ 6; decide
theorem wrsy_ne6 {g : Grp} {d : Dv} (h1 : d.p.off = false) (h2 : d.p.armed = false) : (wrsy d g).1 ≠ 6 ∧ (wrsy d g).2.p.off = false ∧ (wrsy d g).2.p.armed = false := by
  obtain ⟨a1, a2, a3⟩ := wrs_ne6 g d h1 h2
  unfold wrsy
  split
  · have hb : useB (wrs d g).2.p = true ∧ (useS (wrs d g).2.p).off = false ∧ (useS (wrs d g).2.p).armed = false := by
      unfold useB useS
      rw [a2, a3]
      exact ⟨rfl, rfl, rfl⟩
    refine ⟨?_, hb.2.1, hb.2.2⟩
    unfold Dv.syE syncE
    rw [if_pos hb.1]
    show (0 : Int) ≠ 6; decide
  · exact ⟨a1, a2, a3⟩
theorem runs_ne6 : ∀ (gs : List Grp) (d : Dv), d.p.off = false → d.p.armed = false → (runs d gs).1 ≠ 6 ∧ (runs d gs).2.p.off = false ∧ (runs d gs).2.p.armed = false
  | [], _, h1, h2 => ⟨(show (0 : Int) ≠ 6 by decide), h1, h2⟩
  | g :: t, d, h1, h2 => by
    have e : runs d (g :: t) = if (wrsy d g).1 = 0 then runs (wrsy d g).2 t else wrsy d g := rfl
    obtain ⟨a1, a2, a3⟩ := wrsy_ne6 (g := g) h1 h2
    rw [e]
    split
    · exact runs_ne6 t _ a2 a3
    · exact ⟨a1, a2, a3⟩
theorem mend_ne6 {d : Dv} {n : Int} (h1 : d.p.off = false) (h2 : d.p.armed = false) : (mendR d n).1 ≠ 6 := by
  unfold mendR
  rw [if_neg (by rw [h1]; decide)]
  split
  · show (9 : Int) ≠ 6; decide
  · split
    · show (0 : Int) ≠ 6; decide
    · split
      · exact (runs_ne6 _ _ h1 h2).1
      · show (9 : Int) ≠ 6; decide
theorem st_spec2 {d : Dv} {n : Nat} {B : Nat → Bs} {a : Pg} (hlo : d.lo = []) (hT : Tw d.la n B) (ho : d.p.off = false) :
    ((st1 d n a).1 = 0 ∧ lpg a ≠ [] ∧ a.1 < (n : Int) ∧ Tw (st1 d n a).2.la n (updB B a.1.toNat (lpg a)) ∧ (st1 d n a).2.lo = [] ∧ (st1 d n a).2.p.off = false) ∨
    ((st1 d n a).1 = 6 ∧ lpg a ≠ [] ∧ a.1 < (n : Int) ∧ LoOk (st1 d n a).2.lo (st1 d n a).2.la.length ∧ ∀ keep, Pend (settleS (st1 d n a).2.lo (st1 d n a).2.la keep) n B a.1.toNat (lpg a)) ∨ st1 d n a = (1, d) := by
  by_cases hs : lpg a = []
  · exact .inr (.inr (if_pos (.inl hs)))
  · by_cases hn : a.1 < (n : Int)
    · rw [Dv.eta0 hlo]
      rcases st_spec (p := d.p) (a := a) hT ho hs hn with ⟨h1, h2, h3, h4⟩ | ⟨h1, h2, h3⟩
      · exact .inl ⟨h1, hs, hn, h2, h3, h4⟩
      · exact .inr (.inl ⟨h1, hs, hn, h2, h3⟩)
    · exact .inr (.inr (if_pos (.inr (by omega))))
/-- how TwiceCrashes stands: nothing under way, or one page -/
def TcS (d : Dv) (now ul : List Pg) (B : Nat → Bs) : Prop :=
  Told now B 6 ∧ LoOk d.lo d.la.length ∧ ((ul = [] ∧ d.lo = [] ∧ d.p.off = false ∧ Tw d.la 6 B) ∨ (∃ a, ul = [a] ∧ lpg a ≠ [] ∧ a.1 < 6 ∧ ∀ keep, Pend (settleS d.lo d.la keep) 6 B a.1.toNat (lpg a)))
theorem TcS.go {d : Dv} {now : List Pg} {B : Nat → Bs} (h : TcS d now [] B) : Told now B 6 ∧ d.lo = [] ∧ d.p.off = false ∧ Tw d.la 6 B := by
  obtain ⟨h1, _, ⟨_, h2, h3, h4⟩ | ⟨a, e, _⟩⟩ := h
  · exact ⟨h1, h2, h3, h4⟩
  · cases e
theorem lpg_no {a : Pg} (h : lpg a ≠ []) : 0 ≤ a.1 ∧ a.1 < 64 := page_no (lpg_right h)
theorem lpg_of {a : Pg} (h : lpg a ≠ []) : pgOf (lpg a) a.1 = (pgT a, 0) := pgOf_laid (lpg_right h)
theorem TcS.ok {d : Dv} {now : List Pg} {B : Nat → Bs} {a : Pg} (h : TcS d now [] B) (e : (st1 d 6 a).1 = 0) : (0 ≤ a.1 ∧ a.1 < 6) ∧ TcS (st1 d 6 a).2 (now.set a.1.toNat a) [] (updB B a.1.toNat (lpg a)) := by
  obtain ⟨h1, h2, h3, h4⟩ := h.go
  rcases st_spec2 (n := 6) (a := a) h2 h4 h3 with ⟨_, q2, q3, q4, q5, q6⟩ | ⟨q, _⟩ | q
  · have hn := lpg_no q2
    refine ⟨⟨hn.1, q3⟩, h1.set (by omega) (by rw [show ((a.1.toNat : Nat) : Int) = a.1 by omega]; exact lpg_of q2), ?_, .inl ⟨rfl, q5, q6, q4⟩⟩
    exact (show LoOk (st1 d 6 a).2.lo (st1 d 6 a).2.la.length from by rw [show (st1 d 6 a).2.lo = [] from q5]; exact LoOk.nil _)
  · exact absurd (q.symm.trans e) (by decide)
  · have e2 : (st1 d 6 a).1 = 1 := congrArg Prod.fst q
    rw [e2] at e; cases e
theorem TcS.off {d : Dv} {now : List Pg} {B : Nat → Bs} {a : Pg} (h : TcS d now [] B) (e : (st1 d 6 a).1 = 6) : TcS (st1 d 6 a).2 now [a] B := by
  obtain ⟨h1, h2, h3, h4⟩ := h.go
  rcases st_spec2 (n := 6) (a := a) h2 h4 h3 with ⟨q, _⟩ | ⟨_, q2, q3, q4, q5⟩ | q
  · exact absurd (q.symm.trans e) (by decide)
  · exact ⟨h1, q4, .inr ⟨a, rfl, q2, q3, q5⟩⟩
  · have e2 : (st1 d 6 a).1 = 1 := congrArg Prod.fst q
    rw [e2] at e; cases e
/-- behind the first crash, and behind the mending that another one may end -/
def TcP (la : List Bs) (ul : List Pg) (B : Nat → Bs) : Prop := (ul = [] ∧ Tw la 6 B) ∨ (∃ a, ul = [a] ∧ lpg a ≠ [] ∧ a.1 < 6 ∧ Pend la 6 B a.1.toNat (lpg a))
theorem TcS.crash {d : Dv} {now ul : List Pg} {B : Nat → Bs} (h : TcS d now ul B) (keep : List Int) : TcP (d.cr keep).la ul B := by
  obtain ⟨_, _, ⟨h1, h2, _, h4⟩ | ⟨a, h1, h2, h3, h4⟩⟩ := h
  · refine .inl ⟨h1, ?_⟩
    show Tw (settleS d.lo d.la keep) 6 B
    rw [h2, settle_none]; exact h4
  · exact .inr ⟨a, h1, h2, h3, h4 keep⟩
theorem TcP.open {d : Dv} {ul : List Pg} {B : Nat → Bs} (h : TcP d.la ul B) (hlo : d.lo = []) (ho : d.p.off = false) (ha : d.p.armed = false) :
    (mendR d 6).1 = 0 ∧ (mendR d 6).2.lo = [] ∧ (mendR d 6).2.p.off = false ∧ ((ul = [] ∧ Tw (mendR d 6).2.la 6 B) ∨ (∃ a, ul = [a] ∧ lpg a ≠ [] ∧ a.1 < 6 ∧ (Tw (mendR d 6).2.la 6 B ∨ Tw (mendR d 6).2.la 6 (updB B a.1.toNat (lpg a))))) := by
  have h6 := mend_ne6 (n := 6) ho ha
  rw [Dv.eta0 hlo] at h6 ⊢
  rcases h with ⟨h1, h2⟩ | ⟨a, h1, h2, h3, h4⟩
  · have e : mendR ⟨d.p, d.la, []⟩ 6 = (0, ⟨d.p, d.la, []⟩) := tw_mend (p := d.p) h2 ho
    rw [e]
    exact ⟨rfl, rfl, ho, .inl ⟨h1, h2⟩⟩
  · have hn := lpg_no h2
    have ea : ((a.1.toNat : Nat) : Int) = a.1 := by omega
    have el : laidP (a.1.toNat : Int) a.2.1 a.2.2.2 = lpg a := by rw [ea]; rfl
    have H := mend_spec (p := d.p) (n := 6) (B := B) (no := a.1.toNat) (gsn := a.2.1) (l := a.2.2.2) (by rw [el]; exact h4) (by rw [ea]; exact lpg_right h2) (by omega) (by decide) ho
    rw [el] at H
    rcases H with ⟨q1, q2, q3, q4⟩ | ⟨q1, _⟩
    · exact ⟨q1, q3, q4, .inr ⟨a, h1, h2, h3, q2⟩⟩
    · exact absurd q1 h6
end Go.Q
namespace Go.Q
def eP (i : Int) : Pg := (i, 0, .slice none 0 0, [])
def emptyS (m : Nat) : List Pg := (List.range m).map (fun k : Nat => eP k)
theorem empty_len (m : Nat) : (emptyS m).length = m := by unfold emptyS; rw [List.length_map, List.length_range]
theorem empty_get {m k : Nat} (h : k < m) : (emptyS m)[k]? = some (eP k) := by
  unfold emptyS
  rw [List.getElem?_map, List.getElem?_range h]; rfl
theorem stL_single (d : Dv) (n : Int) (a : Pg) : stL d n [a] = st1 d n a := by
  have e : stL d n [a] = if (st1 d n a).1 = 0 then stL (st1 d n a).2 n [] else st1 d n a := rfl
  rw [e]
  split
  · rename_i h
    show (0, (st1 d n a).2) = _
    rw [← h]
  · rfl
theorem sec_blank {m : Nat} {x : Int} (h : x.toNat < m) : sec (List.replicate m blankS) x = blankS := by
  unfold sec
  rw [List.getElem?_replicate, if_pos h]; rfl
theorem tw_start {n m : Nat} (h : 5 + 4 * n ≤ m) : Tw (List.replicate m blankS) n (fun _ => zer 256) := by
  refine ⟨by rw [List.length_replicate]; exact h, sec_blank (by show 0 < m; omega), fun k hk => ?_⟩
  unfold pgB
  have hp : plc (k : Int) = 5 + (k : Int) * 4 := rfl
  rw [sec_blank (by omega), sec_blank (by omega), sec_blank (by omega), sec_blank (by omega)]
  unfold blankS zer
  simp only [List.replicate_append_replicate]
theorem told_start (n : Nat) : Told (emptyS n) (fun _ => zer 256) n := ⟨empty_len n, fun k hk => ⟨eP k, empty_get hk, if_pos rfl⟩⟩
end Go.Q
namespace Go.Q
open Go.Proofs
set_option linter.unusedVariables false
set_option maxRecDepth 100000
attribute [local irreducible] wpList OK Code.wp
theorem tstore1_c {E w : World} {R sg : List Hp} {pb db tb : Nat} {d : Dv} {n : Int} (hH : Has E w [sg, [Hp.one pb (.cells #[(.bool d.p.off), (.bool d.p.armed), (.int .i64 d.p.left), (.int .i64 d.p.uses)] 101 (0, 0))], [Hp.one tb (.cells #[(.pointer (some ⟨db, 0, none⟩)), (.int .i64 n)] 98 (0, 0))], R]) (hd : DevAt pb sg db d.la d.lo) {k : Nat} (hf : Few d.p k) (hk : k ≤ 800000) (hlo : d.lo = []) (h4 : d.la.length ≤ 4096) (hg : CellsAt R 1 0 nibV) {v : Value} {a : Pg} (hv : Sl R 3 v [a].length ([a].flatMap pgC)) (hin : PgIn R a) :
    Calls Tryz.prog 18 #[.pointer (some ⟨tb, 0, none⟩), v] w fun e w' => ∃ sg', e = .returned (.int .i64 (st1 d n a).1) ∧ DevAt pb sg' db (st1 d n a).2.la (st1 d n a).2.lo ∧ Has E w' [sg', [Hp.one pb (.cells #[(.bool ((st1 d n a).2).p.off), (.bool ((st1 d n a).2).p.armed), (.int .i64 ((st1 d n a).2).p.left), (.int .i64 ((st1 d n a).2).p.uses)] 101 (0, 0))], [Hp.one tb (.cells #[(.pointer (some ⟨db, 0, none⟩)), (.int .i64 n)] 98 (0, 0))], R] := by
  have h_ := tstoreL_c hH hd hf hk hlo h4 hg hv (fun b hb => by rw [List.mem_singleton.1 hb]; exact hin) (show 1 ≤ 1000 by decide)
  rw [stL_single] at h_
  exact h_
end Go.Q
namespace Go.Q
open Go.Proofs
set_option linter.unusedVariables false
set_option maxRecDepth 100000
attribute [local irreducible] wpList OK Code.wp
set_option maxHeartbeats 4000000 in
theorem tget_on {E w : World} {R sg : List Hp} {pb db tb : Nat} {d : Dv} {n : Int} (hH : Has E w [sg, [Hp.one pb (.cells #[(.bool d.p.off), (.bool d.p.armed), (.int .i64 d.p.left), (.int .i64 d.p.uses)] 101 (0, 0))], [Hp.one tb (.cells #[(.pointer (some ⟨db, 0, none⟩)), (.int .i64 n)] 98 (0, 0))], R]) (hd : DevAt pb sg db d.la d.lo) (hlo : d.lo = []) (hon : d.p.off = false) (h64 : Full64 d.la) {x : Int} (hx : 0 ≤ x ∧ x + 4 ≤ d.la.length) (h4 : d.la.length ≤ 4096) :
    Calls Tryz.prog 63 #[(.pointer (some ⟨tb, 0, none⟩)), (.int .i64 x)] w fun e w' => e = .returned (.tuple #[S (pgB d.la x), .int .i64 0]) ∧ Has E w' [sg, [Hp.one pb (.cells #[(.bool d.p.off), (.bool d.p.armed), (.int .i64 d.p.left), (.int .i64 d.p.uses)] 101 (0, 0))], [Hp.one tb (.cells #[(.pointer (some ⟨db, 0, none⟩)), (.int .i64 n)] 98 (0, 0))], R] := by
  refine c_enter (args := [(.pointer (some ⟨tb, 0, none⟩)), (.int .i64 x)]) Tryz.func63 rfl Tryz.ntmps63 (by simp) ?_
  refine wp_seq_k fun K1 hK1 => ?_
  refine c_region ?_
  refine s_op (o_assign (v := (S ([] : List UInt8))) rfl ?_)
  refine s_op (o_assign (v := (.int .i64 0)) rfl ?_)
  refine s_nil ?_
  refine t_norm (hK1 _ _ ?_)
  refine wp_seq_k fun K2 hK2 => ?_
  refine c_region ?_
  refine s_op (o_alloc (cs := #[(.pointer none), (.slice none 0 0)]) ti145 rfl hH fun b3 w4 hH5 => ?_)
  refine s_nil ?_
  refine t_norm (hK2 _ _ ?_)
  refine wp_seq_k fun K6 hK6 => ?_
  refine wp_seq_k fun K7 hK7 => ?_
  refine c_region ?_
  refine s_op (o_move (v := (.int .i64 0)) rfl ?_)
  refine s_nil ?_
  refine t_norm (hK7 _ _ ?_)
  refine wp_block ?_
  refine u_loop 5 (u_round ?_)
  refine wp_seq_k fun K8 hK8 => ?_
  refine c_region ?_
  refine s_op (o_lss (a := 0) (b := 4) rfl rfl ?_)
  refine s_nil ?_
  refine t_norm (hK8 _ _ ?_)
  refine wp_seq_k fun K9 hK9 => ?_
  refine c_true rfl rfl ?_
  refine wp_skip ?_
  refine t_norm (hK9 _ _ ?_)
  refine wp_seq_k fun K10 hK10 => ?_
  refine wp_block ?_
  refine wp_seq_k fun K11 hK11 => ?_
  refine c_region ?_
  refine s_op (o_move (v := (.int .i64 0)) rfl ?_)
  refine s_op (o_assign (v := (.int .i64 0)) rfl ?_)
  refine s_nil ?_
  refine t_norm (hK11 _ _ ?_)
  refine wp_seq_k fun K12 hK12 => ?_
  refine c_region ?_
  refine s_op (o_move (v := (.pointer (some ⟨tb, 0, none⟩))) rfl ?_)
  refine s_op (o_nilCheck rfl ?_)
  refine s_op (o_fieldAddr (k := 0) (fun _ => by kernel_rfl) rfl ?_)
  refine s_op (o_load1 (v := (.pointer (some ⟨db, 0, none⟩))) Tryz.underlying29 rfl rfl hH5 (seg_sub 3 rfl) (CellsAt.one rfl) ?_)
  refine s_op (o_move (v := (.int .i64 x)) rfl ?_)
  refine s_op (o_move (v := (.int .i64 0)) rfl ?_)
  refine s_op (o_add (a := x) (b := 0) (c := x) rfl rfl (by rw [Int.add_zero]; exact w64 (by omega) (by omega)) ?_)
  refine s_op (o_callf (vs := #[(.pointer (some ⟨db, 0, none⟩)), (.int .i64 x)]) ca32 rfl (args2 rfl rfl) (read_d (p := d.p) (la := d.la) (lo := d.lo) ((hH5.front 2 rfl).front 2 rfl).all2 hd x) ?_)
  rintro _ w15 ⟨rfl, hX13⟩
  refine ⟨_, rfl, ?_⟩
  have hH14 : Has E w15 [sg, [Hp.one pb (.cells #[(.bool d.p.off), (.bool d.p.armed), (.int .i64 d.p.left), (.int .i64 d.p.uses)] 101 (0, 0))], [Hp.one b3 (.cells #[(.pointer none), (.slice none 0 0)] 145 (0, 0))], [Hp.one tb (.cells #[(.pointer (some ⟨db, 0, none⟩)), (.int .i64 n)] 98 (0, 0))], R] := hX13.of_all2
  refine s_op (o_move (v := (.tuple #[(S (readS d.p d.la d.lo x)), (.int .i64 (readE d.p d.la x))])) rfl ?_)
  refine s_op (o_extract (v := (S (readS d.p d.la d.lo x))) rfl rfl ?_)
  refine s_op (o_extract (v := (.int .i64 (readE d.p d.la x))) rfl rfl ?_)
  refine s_op (o_assign (v := (S (readS d.p d.la d.lo x))) rfl ?_)
  refine s_op (o_assign (v := (.int .i64 (readE d.p d.la x))) rfl ?_)
  refine s_nil ?_
  refine t_norm (hK12 _ _ ?_)
  refine wp_seq_k fun K16 hK16 => ?_
  refine wp_seq_k fun K17 hK17 => ?_
  refine c_region ?_
  refine s_op (o_move (v := (.int .i64 (readE d.p d.la x))) rfl ?_)
  refine s_op (o_neq (a := readE d.p d.la x) (b := 0) rfl rfl ?_)
  refine s_nil ?_
  refine t_norm (hK17 _ _ ?_)
  refine c_cond rfl (fun h18 => ?_) (fun h18 => ?_)
  · -- readE d.p d.la x ≠ 0
    obtain ⟨hs19_, he19_⟩ := rd_sec (d := d) (n := x) hlo hon ⟨by omega, by omega⟩
    have hl19_ : (readS d.p d.la d.lo x).length = 64 := by rw [hs19_]; exact sec_len h64 ⟨by omega, by omega⟩
    exact absurd he19_ h18
  · -- not: readE d.p d.la x ≠ 0
    obtain ⟨hs20_, he20_⟩ := rd_sec (d := d) (n := x) hlo hon ⟨by omega, by omega⟩
    have hl20_ : (readS d.p d.la d.lo x).length = 64 := by rw [hs20_]; exact sec_len h64 ⟨by omega, by omega⟩
    refine wp_skip ?_
    refine t_norm (hK16 _ _ ?_)
    refine c_region ?_
    refine s_op (o_move (v := (S (readS d.p d.la d.lo x))) rfl ?_)
    refine s_op (o_callf (vs := #[(.pointer (some ⟨b3, 0, none⟩)), (S (readS d.p d.la d.lo x))]) ca103 rfl (args2 rfl rfl) (bws (hH14.front 2 rfl).all1 (Bld.new b3) (readS d.p d.la d.lo x) (by simp only [List.length_append, List.length_nil]; omega)) ?_)
    rintro _ w25 ⟨sg21, rfl, hB22, hX23⟩
    refine ⟨_, rfl, ?_⟩
    have hH24 : Has E w25 [sg21, sg, [Hp.one pb (.cells #[(.bool d.p.off), (.bool d.p.armed), (.int .i64 d.p.left), (.int .i64 d.p.uses)] 101 (0, 0))], [Hp.one tb (.cells #[(.pointer (some ⟨db, 0, none⟩)), (.int .i64 n)] 98 (0, 0))], R] := hX23.of_all1
    refine s_nil ?_
    refine b_norm ?_
    refine t_norm (hK10 _ _ ?_)
    refine c_region ?_
    refine s_op (o_add (a := 0) (b := 1) (c := 1) rfl rfl (by decide) ?_)
    refine s_op (o_move (v := (.int .i64 1)) rfl ?_)
    refine s_nil ?_
    refine t_norm (u_round ?_)
    refine wp_seq_k fun K26 hK26 => ?_
    refine c_region ?_
    refine s_op (o_lss (a := 1) (b := 4) rfl rfl ?_)
    refine s_nil ?_
    refine t_norm (hK26 _ _ ?_)
    refine wp_seq_k fun K27 hK27 => ?_
    refine c_true rfl rfl ?_
    refine wp_skip ?_
    refine t_norm (hK27 _ _ ?_)
    refine wp_seq_k fun K28 hK28 => ?_
    refine wp_block ?_
    refine wp_seq_k fun K29 hK29 => ?_
    refine c_region ?_
    refine s_op (o_move (v := (.int .i64 1)) rfl ?_)
    refine s_op (o_assign (v := (.int .i64 1)) rfl ?_)
    refine s_nil ?_
    refine t_norm (hK29 _ _ ?_)
    refine wp_seq_k fun K30 hK30 => ?_
    refine c_region ?_
    refine s_op (o_move (v := (.pointer (some ⟨tb, 0, none⟩))) rfl ?_)
    refine s_op (o_nilCheck rfl ?_)
    refine s_op (o_fieldAddr (k := 0) (fun _ => by kernel_rfl) rfl ?_)
    refine s_op (o_load1 (v := (.pointer (some ⟨db, 0, none⟩))) Tryz.underlying29 rfl rfl hH24 (seg_sub 3 rfl) (CellsAt.one rfl) ?_)
    refine s_op (o_move (v := (.int .i64 x)) rfl ?_)
    refine s_op (o_move (v := (.int .i64 1)) rfl ?_)
    refine s_op (o_add (a := x) (b := 1) rfl rfl (w64 (by omega) (by omega)) ?_)
    refine s_op (o_callf (vs := #[(.pointer (some ⟨db, 0, none⟩)), (.int .i64 (x + 1))]) ca32 rfl (args2 rfl rfl) (read_d (p := d.p) (la := d.la) (lo := d.lo) ((hH24.front 2 rfl).front 2 rfl).all2 hd (x + 1)) ?_)
    rintro _ w33 ⟨rfl, hX31⟩
    refine ⟨_, rfl, ?_⟩
    have hH32 : Has E w33 [sg, [Hp.one pb (.cells #[(.bool d.p.off), (.bool d.p.armed), (.int .i64 d.p.left), (.int .i64 d.p.uses)] 101 (0, 0))], sg21, [Hp.one tb (.cells #[(.pointer (some ⟨db, 0, none⟩)), (.int .i64 n)] 98 (0, 0))], R] := hX31.of_all2
    refine s_op (o_move (v := (.tuple #[(S (readS d.p d.la d.lo (x + 1))), (.int .i64 (readE d.p d.la (x + 1)))])) rfl ?_)
    refine s_op (o_extract (v := (S (readS d.p d.la d.lo (x + 1)))) rfl rfl ?_)
    refine s_op (o_extract (v := (.int .i64 (readE d.p d.la (x + 1)))) rfl rfl ?_)
    refine s_op (o_assign (v := (S (readS d.p d.la d.lo (x + 1)))) rfl ?_)
    refine s_op (o_assign (v := (.int .i64 (readE d.p d.la (x + 1)))) rfl ?_)
    refine s_nil ?_
    refine t_norm (hK30 _ _ ?_)
    refine wp_seq_k fun K34 hK34 => ?_
    refine wp_seq_k fun K35 hK35 => ?_
    refine c_region ?_
    refine s_op (o_move (v := (.int .i64 (readE d.p d.la (x + 1)))) rfl ?_)
    refine s_op (o_neq (a := readE d.p d.la (x + 1)) (b := 0) rfl rfl ?_)
    refine s_nil ?_
    refine t_norm (hK35 _ _ ?_)
    refine c_cond rfl (fun h36 => ?_) (fun h36 => ?_)
    · -- readE d.p d.la (x + 1) ≠ 0
      obtain ⟨hs37_, he37_⟩ := rd_sec (d := d) (n := x + 1) hlo hon ⟨by omega, by omega⟩
      have hl37_ : (readS d.p d.la d.lo (x + 1)).length = 64 := by rw [hs37_]; exact sec_len h64 ⟨by omega, by omega⟩
      exact absurd he37_ h36
    · -- not: readE d.p d.la (x + 1) ≠ 0
      obtain ⟨hs38_, he38_⟩ := rd_sec (d := d) (n := x + 1) hlo hon ⟨by omega, by omega⟩
      have hl38_ : (readS d.p d.la d.lo (x + 1)).length = 64 := by rw [hs38_]; exact sec_len h64 ⟨by omega, by omega⟩
      refine wp_skip ?_
      refine t_norm (hK34 _ _ ?_)
      refine c_region ?_
      refine s_op (o_move (v := (S (readS d.p d.la d.lo (x + 1)))) rfl ?_)
      refine s_op (o_callf (vs := #[(.pointer (some ⟨b3, 0, none⟩)), (S (readS d.p d.la d.lo (x + 1)))]) ca103 rfl (args2 rfl rfl) (bws (hH32.front 2 rfl).all1 hB22 (readS d.p d.la d.lo (x + 1)) (by simp only [List.length_append, List.length_nil]; omega)) ?_)
      rintro _ w43 ⟨sg39, rfl, hB40, hX41⟩
      refine ⟨_, rfl, ?_⟩
      have hH42 : Has E w43 [sg39, sg, [Hp.one pb (.cells #[(.bool d.p.off), (.bool d.p.armed), (.int .i64 d.p.left), (.int .i64 d.p.uses)] 101 (0, 0))], [Hp.one tb (.cells #[(.pointer (some ⟨db, 0, none⟩)), (.int .i64 n)] 98 (0, 0))], R] := hX41.of_all1
      refine s_nil ?_
      refine b_norm ?_
      refine t_norm (hK28 _ _ ?_)
      refine c_region ?_
      refine s_op (o_add (a := 1) (b := 1) (c := 2) rfl rfl (by decide) ?_)
      refine s_op (o_move (v := (.int .i64 2)) rfl ?_)
      refine s_nil ?_
      refine t_norm (u_round ?_)
      refine wp_seq_k fun K44 hK44 => ?_
      refine c_region ?_
      refine s_op (o_lss (a := 2) (b := 4) rfl rfl ?_)
      refine s_nil ?_
      refine t_norm (hK44 _ _ ?_)
      refine wp_seq_k fun K45 hK45 => ?_
      refine c_true rfl rfl ?_
      refine wp_skip ?_
      refine t_norm (hK45 _ _ ?_)
      refine wp_seq_k fun K46 hK46 => ?_
      refine wp_block ?_
      refine wp_seq_k fun K47 hK47 => ?_
      refine c_region ?_
      refine s_op (o_move (v := (.int .i64 2)) rfl ?_)
      refine s_op (o_assign (v := (.int .i64 2)) rfl ?_)
      refine s_nil ?_
      refine t_norm (hK47 _ _ ?_)
      refine wp_seq_k fun K48 hK48 => ?_
      refine c_region ?_
      refine s_op (o_move (v := (.pointer (some ⟨tb, 0, none⟩))) rfl ?_)
      refine s_op (o_nilCheck rfl ?_)
      refine s_op (o_fieldAddr (k := 0) (fun _ => by kernel_rfl) rfl ?_)
      refine s_op (o_load1 (v := (.pointer (some ⟨db, 0, none⟩))) Tryz.underlying29 rfl rfl hH42 (seg_sub 3 rfl) (CellsAt.one rfl) ?_)
      refine s_op (o_move (v := (.int .i64 x)) rfl ?_)
      refine s_op (o_move (v := (.int .i64 2)) rfl ?_)
      refine s_op (o_add (a := x) (b := 2) rfl rfl (w64 (by omega) (by omega)) ?_)
      refine s_op (o_callf (vs := #[(.pointer (some ⟨db, 0, none⟩)), (.int .i64 (x + 2))]) ca32 rfl (args2 rfl rfl) (read_d (p := d.p) (la := d.la) (lo := d.lo) ((hH42.front 2 rfl).front 2 rfl).all2 hd (x + 2)) ?_)
      rintro _ w51 ⟨rfl, hX49⟩
      refine ⟨_, rfl, ?_⟩
      have hH50 : Has E w51 [sg, [Hp.one pb (.cells #[(.bool d.p.off), (.bool d.p.armed), (.int .i64 d.p.left), (.int .i64 d.p.uses)] 101 (0, 0))], sg39, [Hp.one tb (.cells #[(.pointer (some ⟨db, 0, none⟩)), (.int .i64 n)] 98 (0, 0))], R] := hX49.of_all2
      refine s_op (o_move (v := (.tuple #[(S (readS d.p d.la d.lo (x + 2))), (.int .i64 (readE d.p d.la (x + 2)))])) rfl ?_)
      refine s_op (o_extract (v := (S (readS d.p d.la d.lo (x + 2)))) rfl rfl ?_)
      refine s_op (o_extract (v := (.int .i64 (readE d.p d.la (x + 2)))) rfl rfl ?_)
      refine s_op (o_assign (v := (S (readS d.p d.la d.lo (x + 2)))) rfl ?_)
      refine s_op (o_assign (v := (.int .i64 (readE d.p d.la (x + 2)))) rfl ?_)
      refine s_nil ?_
      refine t_norm (hK48 _ _ ?_)
      refine wp_seq_k fun K52 hK52 => ?_
      refine wp_seq_k fun K53 hK53 => ?_
      refine c_region ?_
      refine s_op (o_move (v := (.int .i64 (readE d.p d.la (x + 2)))) rfl ?_)
      refine s_op (o_neq (a := readE d.p d.la (x + 2)) (b := 0) rfl rfl ?_)
      refine s_nil ?_
      refine t_norm (hK53 _ _ ?_)
      refine c_cond rfl (fun h54 => ?_) (fun h54 => ?_)
      · -- readE d.p d.la (x + 2) ≠ 0
        obtain ⟨hs55_, he55_⟩ := rd_sec (d := d) (n := x + 2) hlo hon ⟨by omega, by omega⟩
        have hl55_ : (readS d.p d.la d.lo (x + 2)).length = 64 := by rw [hs55_]; exact sec_len h64 ⟨by omega, by omega⟩
        exact absurd he55_ h54
      · -- not: readE d.p d.la (x + 2) ≠ 0
        obtain ⟨hs56_, he56_⟩ := rd_sec (d := d) (n := x + 2) hlo hon ⟨by omega, by omega⟩
        have hl56_ : (readS d.p d.la d.lo (x + 2)).length = 64 := by rw [hs56_]; exact sec_len h64 ⟨by omega, by omega⟩
        refine wp_skip ?_
        refine t_norm (hK52 _ _ ?_)
        refine c_region ?_
        refine s_op (o_move (v := (S (readS d.p d.la d.lo (x + 2)))) rfl ?_)
        refine s_op (o_callf (vs := #[(.pointer (some ⟨b3, 0, none⟩)), (S (readS d.p d.la d.lo (x + 2)))]) ca103 rfl (args2 rfl rfl) (bws (hH50.front 2 rfl).all1 hB40 (readS d.p d.la d.lo (x + 2)) (by simp only [List.length_append, List.length_nil]; omega)) ?_)
        rintro _ w61 ⟨sg57, rfl, hB58, hX59⟩
        refine ⟨_, rfl, ?_⟩
        have hH60 : Has E w61 [sg57, sg, [Hp.one pb (.cells #[(.bool d.p.off), (.bool d.p.armed), (.int .i64 d.p.left), (.int .i64 d.p.uses)] 101 (0, 0))], [Hp.one tb (.cells #[(.pointer (some ⟨db, 0, none⟩)), (.int .i64 n)] 98 (0, 0))], R] := hX59.of_all1
        refine s_nil ?_
        refine b_norm ?_
        refine t_norm (hK46 _ _ ?_)
        refine c_region ?_
        refine s_op (o_add (a := 2) (b := 1) (c := 3) rfl rfl (by decide) ?_)
        refine s_op (o_move (v := (.int .i64 3)) rfl ?_)
        refine s_nil ?_
        refine t_norm (u_round ?_)
        refine wp_seq_k fun K62 hK62 => ?_
        refine c_region ?_
        refine s_op (o_lss (a := 3) (b := 4) rfl rfl ?_)
        refine s_nil ?_
        refine t_norm (hK62 _ _ ?_)
        refine wp_seq_k fun K63 hK63 => ?_
        refine c_true rfl rfl ?_
        refine wp_skip ?_
        refine t_norm (hK63 _ _ ?_)
        refine wp_seq_k fun K64 hK64 => ?_
        refine wp_block ?_
        refine wp_seq_k fun K65 hK65 => ?_
        refine c_region ?_
        refine s_op (o_move (v := (.int .i64 3)) rfl ?_)
        refine s_op (o_assign (v := (.int .i64 3)) rfl ?_)
        refine s_nil ?_
        refine t_norm (hK65 _ _ ?_)
        refine wp_seq_k fun K66 hK66 => ?_
        refine c_region ?_
        refine s_op (o_move (v := (.pointer (some ⟨tb, 0, none⟩))) rfl ?_)
        refine s_op (o_nilCheck rfl ?_)
        refine s_op (o_fieldAddr (k := 0) (fun _ => by kernel_rfl) rfl ?_)
        refine s_op (o_load1 (v := (.pointer (some ⟨db, 0, none⟩))) Tryz.underlying29 rfl rfl hH60 (seg_sub 3 rfl) (CellsAt.one rfl) ?_)
        refine s_op (o_move (v := (.int .i64 x)) rfl ?_)
        refine s_op (o_move (v := (.int .i64 3)) rfl ?_)
        refine s_op (o_add (a := x) (b := 3) rfl rfl (w64 (by omega) (by omega)) ?_)
        refine s_op (o_callf (vs := #[(.pointer (some ⟨db, 0, none⟩)), (.int .i64 (x + 3))]) ca32 rfl (args2 rfl rfl) (read_d (p := d.p) (la := d.la) (lo := d.lo) ((hH60.front 2 rfl).front 2 rfl).all2 hd (x + 3)) ?_)
        rintro _ w69 ⟨rfl, hX67⟩
        refine ⟨_, rfl, ?_⟩
        have hH68 : Has E w69 [sg, [Hp.one pb (.cells #[(.bool d.p.off), (.bool d.p.armed), (.int .i64 d.p.left), (.int .i64 d.p.uses)] 101 (0, 0))], sg57, [Hp.one tb (.cells #[(.pointer (some ⟨db, 0, none⟩)), (.int .i64 n)] 98 (0, 0))], R] := hX67.of_all2
        refine s_op (o_move (v := (.tuple #[(S (readS d.p d.la d.lo (x + 3))), (.int .i64 (readE d.p d.la (x + 3)))])) rfl ?_)
        refine s_op (o_extract (v := (S (readS d.p d.la d.lo (x + 3)))) rfl rfl ?_)
        refine s_op (o_extract (v := (.int .i64 (readE d.p d.la (x + 3)))) rfl rfl ?_)
        refine s_op (o_assign (v := (S (readS d.p d.la d.lo (x + 3)))) rfl ?_)
        refine s_op (o_assign (v := (.int .i64 (readE d.p d.la (x + 3)))) rfl ?_)
        refine s_nil ?_
        refine t_norm (hK66 _ _ ?_)
        refine wp_seq_k fun K70 hK70 => ?_
        refine wp_seq_k fun K71 hK71 => ?_
        refine c_region ?_
        refine s_op (o_move (v := (.int .i64 (readE d.p d.la (x + 3)))) rfl ?_)
        refine s_op (o_neq (a := readE d.p d.la (x + 3)) (b := 0) rfl rfl ?_)
        refine s_nil ?_
        refine t_norm (hK71 _ _ ?_)
        refine c_cond rfl (fun h72 => ?_) (fun h72 => ?_)
        · -- readE d.p d.la (x + 3) ≠ 0
          obtain ⟨hs73_, he73_⟩ := rd_sec (d := d) (n := x + 3) hlo hon ⟨by omega, by omega⟩
          have hl73_ : (readS d.p d.la d.lo (x + 3)).length = 64 := by rw [hs73_]; exact sec_len h64 ⟨by omega, by omega⟩
          exact absurd he73_ h72
        · -- not: readE d.p d.la (x + 3) ≠ 0
          obtain ⟨hs74_, he74_⟩ := rd_sec (d := d) (n := x + 3) hlo hon ⟨by omega, by omega⟩
          have hl74_ : (readS d.p d.la d.lo (x + 3)).length = 64 := by rw [hs74_]; exact sec_len h64 ⟨by omega, by omega⟩
          refine wp_skip ?_
          refine t_norm (hK70 _ _ ?_)
          refine c_region ?_
          refine s_op (o_move (v := (S (readS d.p d.la d.lo (x + 3)))) rfl ?_)
          refine s_op (o_callf (vs := #[(.pointer (some ⟨b3, 0, none⟩)), (S (readS d.p d.la d.lo (x + 3)))]) ca103 rfl (args2 rfl rfl) (bws (hH68.front 2 rfl).all1 hB58 (readS d.p d.la d.lo (x + 3)) (by simp only [List.length_append, List.length_nil]; omega)) ?_)
          rintro _ w79 ⟨sg75, rfl, hB76, hX77⟩
          refine ⟨_, rfl, ?_⟩
          have hH78 : Has E w79 [sg75, sg, [Hp.one pb (.cells #[(.bool d.p.off), (.bool d.p.armed), (.int .i64 d.p.left), (.int .i64 d.p.uses)] 101 (0, 0))], [Hp.one tb (.cells #[(.pointer (some ⟨db, 0, none⟩)), (.int .i64 n)] 98 (0, 0))], R] := hX77.of_all1
          refine s_nil ?_
          refine b_norm ?_
          refine t_norm (hK64 _ _ ?_)
          refine c_region ?_
          refine s_op (o_add (a := 3) (b := 1) (c := 4) rfl rfl (by decide) ?_)
          refine s_op (o_move (v := (.int .i64 4)) rfl ?_)
          refine s_nil ?_
          refine t_norm (u_round ?_)
          refine wp_seq_k fun K80 hK80 => ?_
          refine c_region ?_
          refine s_op (o_lss (a := 4) (b := 4) rfl rfl ?_)
          refine s_nil ?_
          refine t_norm (hK80 _ _ ?_)
          refine wp_seq_k fun K81 hK81 => ?_
          refine c_false rfl rfl ?_
          refine wp_exit ?_
          refine t_exit (t_exit (x_in (?_)))
          refine t_norm (hK6 _ _ ?_)
          refine wp_seq_k fun K82 hK82 => ?_
          refine c_region ?_
          refine s_op (o_callf (vs := #[(.pointer (some ⟨b3, 0, none⟩))]) ca104 rfl (args1 rfl) (bstrK hH78.all1 hB76) ?_)
          rintro _ w88 ⟨a83, p84, c85, rfl, hX86⟩
          refine ⟨_, rfl, ?_⟩
          have hH87 : Has E w88 [[Hp.one b3 (.cells #[a83, (.slice p84 ((((([] : Bs) ++ (readS d.p d.la d.lo x)) ++ (readS d.p d.la d.lo (x + 1))) ++ (readS d.p d.la d.lo (x + 2))) ++ (readS d.p d.la d.lo (x + 3))).length c85)] 145 (0, 0))], sg, [Hp.one pb (.cells #[(.bool d.p.off), (.bool d.p.armed), (.int .i64 d.p.left), (.int .i64 d.p.uses)] 101 (0, 0))], [Hp.one tb (.cells #[(.pointer (some ⟨db, 0, none⟩)), (.int .i64 n)] 98 (0, 0))], R] := hX86.of_all1
          refine s_op (o_assign (v := (S ((((([] : Bs) ++ (readS d.p d.la d.lo x)) ++ (readS d.p d.la d.lo (x + 1))) ++ (readS d.p d.la d.lo (x + 2))) ++ (readS d.p d.la d.lo (x + 3))))) rfl ?_)
          refine s_op (o_assign (v := (.int .i64 0)) rfl ?_)
          refine s_nil ?_
          refine t_norm (hK82 _ _ ?_)
          refine wp_ret ?_
          refine c_ret2 Tryz.results63  (v := (S ((((([] : Bs) ++ (readS d.p d.la d.lo x)) ++ (readS d.p d.la d.lo (x + 1))) ++ (readS d.p d.la d.lo (x + 2))) ++ (readS d.p d.la d.lo (x + 3))))) rfl (x := (.int .i64 0)) rfl ?_
          have hH89 : Has E w88 [sg, [Hp.one pb (.cells #[(.bool d.p.off), (.bool d.p.armed), (.int .i64 d.p.left), (.int .i64 d.p.uses)] 101 (0, 0))], [Hp.one tb (.cells #[(.pointer (some ⟨db, 0, none⟩)), (.int .i64 n)] 98 (0, 0))], R] := ((((hH87.front 4 rfl).front 4 rfl).front 4 rfl).front 4 rfl).first 4 rfl
          exact ⟨by rw [hs20_, hs38_, hs56_, hs74_]; unfold pgB; simp only [List.nil_append, List.append_assoc], hH89⟩
end Go.Q
namespace Go.Q
section
variable {H : Type} {enc : TypeId × Value → H} {P : Program} {w : World} {t e : TypeId} {cs : List Value}
/-- These cells read as a value of the type. -/
def Rd (enc : TypeId × Value → H) (P : Program) (w : World) (t : TypeId) (cs : List Value) : Prop := ∃ fuel x, DataW.trod enc P w 0 (fun _ => true) true fuel t cs = some x
theorem rd_of {v : Value} {d : DataW H} {ps : List MemPlace} (h : DataW.Trod enc P w 0 (fun _ => true) true t v d ps) : Rd enc P w t v.cells.toList := ⟨h.choose, _, h.choose_spec⟩
theorem rd_int {k : IntKind} (ht : P.underlying t = some (.int k)) (h : Rd enc P w t cs) : ∃ n, cs = [.int k n] ∧ (Lit.int k n).wf = true := by
  obtain ⟨f, x, h⟩ := h
  obtain ⟨n, h1, _, h2⟩ := DataW.trod_int ht h
  exact ⟨n, h1, h2⟩
theorem rd_i64 (ht : P.underlying t = some (.int .i64)) (h : Rd enc P w t cs) : ∃ n, cs = [iV n] ∧ (-9223372036854775808 : Int) ≤ n ∧ n ≤ 9223372036854775807 := by
  obtain ⟨n, h1, h2⟩ := rd_int ht h
  exact ⟨n, h1, wf_i64 h2⟩
theorem rd_string (ht : P.underlying t = some .string) (h : Rd enc P w t cs) : ∃ l : List UInt8, cs = [S l] ∧ l.length ≤ 9223372036854775807 := by
  obtain ⟨f, x, h⟩ := h
  obtain ⟨s, h1, _, h2⟩ := DataW.trod_string ht h
  exact ⟨s.data.toList, by rw [h1, S_of], by rw [show maxLen = 9223372036854775807 from rfl] at h2; exact h2⟩
theorem rd_struct {fs : Array Field} (ht : P.underlying t = some (.struct fs)) (h : Rd enc P w t cs) :
    cs.length = P.cellsOf t ∧ ∀ (i : Nat) (f : Field), fs[i]? = some f → Rd enc P w f.type ((cs.drop f.offset).take (P.cellsOf f.type)) := by
  obtain ⟨f, x, h⟩ := h
  obtain ⟨xs, n, _, _, h1, h2, h3⟩ := DataW.trod_struct ht h
  refine ⟨h1, fun i f hf => ?_⟩
  have hi : i < xs.length := by rw [h2]; exact (Array.getElem?_eq_some_iff.1 hf).1
  exact ⟨n, xs[i], by rw [h3 i f hf, List.getElem?_eq_getElem hi]⟩
theorem rd_field {fs : Array Field} {i k : Nat} {f : Field} {T : TypeId} {ds : List Value} (hf : ∀ (i : Nat) (f : Field), fs[i]? = some f → Rd enc P w f.type ((cs.drop f.offset).take (P.cellsOf f.type)))
    (h : fs[i]? = some f) (hT : f.type = T) (hc : P.cellsOf T = k) (hd : (cs.drop f.offset).take k = ds) : Rd enc P w T ds := by
  have g := hf i f h
  rw [hT, hc, hd] at g
  exact g
theorem rd_slice (ht : P.underlying t = some (.slice e)) (h : Rd enc P w t cs) :
    cs = [.slice none 0 0] ∨ ∃ a len cap, cs = [.slice (some a) len cap] ∧ len ≤ cap ∧ cap ≤ 9223372036854775807 ∧
      ∀ i, i < len → ∃ r : List Value, r.length = P.cellsOf e ∧ Rd enc P w e r ∧ ∀ j, j < P.cellsOf e → w.cell? (a.add (i * P.cellsOf e + j)) = r[j]? := by
  obtain ⟨f, x, h⟩ := h
  rcases DataW.trod_slice ht h with ⟨h, _⟩ | ⟨a, len, cap, elems, rest, n, _, h1, _, _, h2, h3, h4, h5, _⟩
  · exact .inl h
  · refine .inr ⟨a, len, cap, h1, h2, by simpa [maxLen] using h3, fun i hi => ?_⟩
    have hb := h5 i hi
    rw [List.getElem?_eq_getElem (by omega)] at hb
    obtain ⟨r, hr, hd⟩ := Option.bind_eq_some_iff.1 hb
    obtain ⟨_, g1, g2⟩ := World.cells?_some hr
    refine ⟨r, g1, ⟨n, _, hd⟩, fun j hj => ?_⟩
    rw [← g2 j hj, Addr.add_add]
/-- A row, by how its elements read. -/
theorem rd_rows {α : Type} {f : α → List Value} {Good : α → Prop} {sz : Nat} (ht : P.underlying t = some (.slice e)) (hc : P.cellsOf e = sz) (h0 : 0 < sz) (hf : ∀ a, (f a).length = sz)
    (each : ∀ r, Rd enc P w e r → ∃ a, r = f a ∧ Good a) (h : Rd enc P w t cs) : ∃ (v : Value) (l : List α), cs = [v] ∧ Sl [Hp.of w] sz v l.length (l.flatMap f) ∧ ∀ a ∈ l, Good a := by
  subst hc
  rcases rd_slice ht h with rfl | ⟨a, len, cap, rfl, h1, h2, h3⟩
  · exact ⟨_, [], rfl, ⟨none, 0, rfl, Nat.le_refl _, by omega, by simp, fun g => by simp at g⟩, fun a ha => by cases ha⟩
  · have key : ∀ k, k ≤ len → ∃ l : List α, l.length = k ∧ (∀ a ∈ l, Good a) ∧ ∀ i v, (l.flatMap f)[i]? = some v → w.cell? (a.add i) = some v := by
      intro k
      induction k with
      | zero => intro _; exact ⟨[], rfl, fun a ha => (by cases ha), fun i v hv => by simp at hv⟩
      | succ k ih =>
        intro hk
        obtain ⟨l, hl, hg, hcell⟩ := ih (by omega)
        obtain ⟨r, hr, hd, hrc⟩ := h3 k (by omega)
        obtain ⟨y, rfl, hy⟩ := each r hd
        refine ⟨l ++ [y], by simp [hl], fun a ha => ?_, fun i v hv => ?_⟩
        · rcases List.mem_append.1 ha with g | g
          · exact hg a g
          · rw [List.mem_singleton.1 g]; exact hy
        · rw [List.flatMap_append, List.flatMap_cons, List.flatMap_nil, List.append_nil] at hv
          have hlen := flat_len hf l
          rcases Nat.lt_or_ge i (l.flatMap f).length with g | g
          · rw [List.getElem?_append_left g] at hv; exact hcell i v hv
          · rw [List.getElem?_append_right g] at hv
            have hj : i - (l.flatMap f).length < P.cellsOf e := by rw [← hr]; exact (List.getElem?_eq_some_iff.1 hv).1
            have := hrc (i - (l.flatMap f).length) hj
            rw [hv] at this
            rw [← this]; congr 2
            rw [hlen, hl] at g hj ⊢; omega
    obtain ⟨l, hl, hg, hcell⟩ := key len (Nat.le_refl _)
    refine ⟨_, l, rfl, ⟨some a, cap, by rw [hl], by omega, h2, flat_len hf l, fun g => ?_⟩, hg⟩
    obtain ⟨b, off, rfl, hc⟩ := cells_row (w := w) (x := a) (vs := l.flatMap f) (by rw [flat_len hf l]; exact Nat.mul_pos g h0) hcell
    exact ⟨b, off, rfl, hc⟩
/-- a value of a type of one cell is its cell -/
theorem val_one {r : Reach} {b0 : Nat} {v u : Value} (hn : match P.underlying t with | some (.struct _) => False | some (.array _ _) => False | _ => True) (hval : Value.okWide P w r b0 t v) (h : v.cells.toList = [u]) : v = u := by
  cases v with
  | agg c =>
    unfold Value.okWide at hval
    cases hu : P.underlying t with
    | none => rw [hu] at hval; simp [Cell.okWide, Cell.ok, hu] at hval
    | some d => rw [hu] at hn hval; cases d <;> first | exact hn.elim | (simp [Cell.okWide, Cell.ok, hu] at hval)
  | _ => simpa [Value.cells] using h
end
end Go.Q
namespace Go.Q
section
variable {H : Type} {enc : TypeId × Value → H} {P : Program} {w : World} {t e : TypeId} {cs : List Value}
/-- These cells read as a value of the type, and each text and row in it is within the reach. -/
def RdS (enc : TypeId × Value → H) (P : Program) (w : World) (t : TypeId) (cs : List Value) : Prop := ∃ fuel x, DataW.trod enc P w 0 (fun _ => true) true fuel t cs = some x ∧ ∀ n ∈ DataW.weights P t x.1, n ≤ reachBytes
theorem RdS.rd (h : RdS enc P w t cs) : Rd enc P w t cs := let ⟨f, x, h, _⟩ := h; ⟨f, x, h⟩
end
end Go.Q
namespace Go.Q
structure DAct where
  kind : Int
  n : Int
  other : Bool
  dv : Value
  data : List Bs
  kv : Value
  keep : List Int
/-- An act whose rows read. -/
def DaOk (R : List Hp) (a : DAct) : Prop := Sl R 1 a.dv a.data.length (a.data.map sV) ∧ Ints R a.kv a.keep ∧ (∀ t ∈ a.data, t.length ≤ 140737488355328) ∧ -9223372036854775808 ≤ a.n ∧ a.n ≤ 9223372036854775807
theorem DaOk.mono {R R' : List Hp} {a : DAct} (h : DaOk R a) (hs : R ⊆ R') : DaOk R' a := ⟨h.1.mono hs, h.2.1.mono hs, h.2.2⟩
end Go.Q
namespace Go.Q
structure AAct where
  kind : Int
  at_ : Int
  size : Int
  dv : Value
  data : List Bs
  kv : Value
  keep : List Int
def AaOk (R : List Hp) (a : AAct) : Prop := Sl R 1 a.dv a.data.length (a.data.map sV) ∧ Ints R a.kv a.keep ∧ (∀ t ∈ a.data, t.length ≤ 140737488355328)
theorem AaOk.mono {R R' : List Hp} {a : AAct} (h : AaOk R a) (hs : R ⊆ R') : AaOk R' a := ⟨h.1.mono hs, h.2.1.mono hs, h.2.2⟩
end Go.Q
namespace Go.Q
open Go.Proofs Go.Shelf
set_option maxRecDepth 100000
def trl_ren : Go.Shelf.Ren := ⟨fun | 160 => 105 | 232 => 129 | 231 => 128 | 227 => 130 | 234 => 132 | 233 => 131 | 236 => 134 | 235 => 133 | 228 => 156 | 271 => 159 | 151 => 158 | 197 => 157 | 120 => 174 | 152 => 173 | 260 => 172 | 137 => 180 | 119 => 181 | 224 => 182 | 225 => 183 | 217 => 186 | 266 => 187 | n => n, fun | 9 => 9 | 4 => 4 | 3 => 3 | 5 => 5 | 117 => 176 | 116 => 175 | 0 => 0 | 124 => 179 | 21 => 21 | 105 => 198 | 46 => 52 | 119 => 217 | 139 => 220 | 138 => 219 | n => n, fun | 3 => 2 | 4 => 3 | n => n⟩
theorem trl : Go.Proofs.Lays.n160 Tryz.prog trl_ren := {
  mixed := by kernel_rfl
  f119 := Tryz.func181.trans (congrArg some (by kernel_rfl))
  f120 := Tryz.func174.trans (congrArg some (by kernel_rfl))
  f137 := Tryz.func180.trans (congrArg some (by kernel_rfl))
  f151 := Tryz.func158.trans (congrArg some (by kernel_rfl))
  f152 := Tryz.func173.trans (congrArg some (by kernel_rfl))
  f160 := Tryz.func105.trans (congrArg some (by kernel_rfl))
  f197 := Tryz.func157.trans (congrArg some (by kernel_rfl))
  f217 := Tryz.func186.trans (congrArg some (by kernel_rfl))
  f224 := Tryz.func182.trans (congrArg some (by kernel_rfl))
  f225 := Tryz.func183.trans (congrArg some (by kernel_rfl))
  f227 := Tryz.func130.trans (congrArg some (by kernel_rfl))
  f228 := Tryz.func156.trans (congrArg some (by kernel_rfl))
  f231 := Tryz.func128.trans (congrArg some (by kernel_rfl))
  f232 := Tryz.func129.trans (congrArg some (by kernel_rfl))
  f233 := Tryz.func131.trans (congrArg some (by kernel_rfl))
  f234 := Tryz.func132.trans (congrArg some (by kernel_rfl))
  f235 := Tryz.func133.trans (congrArg some (by kernel_rfl))
  f236 := Tryz.func134.trans (congrArg some (by kernel_rfl))
  f260 := Tryz.func172.trans (congrArg some (by kernel_rfl))
  f266 := Tryz.func187.trans (congrArg some (by kernel_rfl))
  f271 := Tryz.func159.trans (congrArg some (by kernel_rfl))
  t0 := Tryz.underlying0
  a0 := Tryz.isAgg0
  z0 := Tryz.sizeOf0
  v0 := Tryz.zeroValue0
  t3 := Tryz.underlying3
  a3 := Tryz.isAgg3
  z3 := Tryz.sizeOf3
  v3 := Tryz.zeroValue3
  t4 := Tryz.underlying4
  a4 := Tryz.isAgg4
  z4 := Tryz.sizeOf4
  v4 := Tryz.zeroValue4
  t5 := Tryz.underlying5
  a5 := Tryz.isAgg5
  z5 := Tryz.sizeOf5
  v5 := Tryz.zeroValue5
  t9 := Tryz.underlying9
  a9 := Tryz.isAgg9
  z9 := Tryz.sizeOf9
  v9 := Tryz.zeroValue9
  t21 := Tryz.underlying21
  a21 := Tryz.isAgg21
  z21 := Tryz.sizeOf21
  v21 := Tryz.zeroValue21
  t46 := Tryz.underlying52
  a46 := Tryz.isAgg52
  z46 := Tryz.sizeOf52
  v46 := Tryz.zeroValue52
  t105 := Tryz.underlying198
  a105 := Tryz.isAgg198
  z105 := Tryz.sizeOf198
  v105 := Tryz.zeroValue198
  t116 := Tryz.underlying175
  a116 := Tryz.isAgg175
  z116 := Tryz.sizeOf175
  t117 := Tryz.underlying176
  a117 := Tryz.isAgg176
  z117 := Tryz.sizeOf176
  v117 := Tryz.zeroValue176
  t119 := Tryz.underlying217
  a119 := Tryz.isAgg217
  z119 := Tryz.sizeOf217
  t124 := Tryz.underlying179
  a124 := Tryz.isAgg179
  z124 := Tryz.sizeOf179
  v124 := Tryz.zeroValue179
  t138 := Tryz.underlying219
  a138 := Tryz.isAgg219
  z138 := Tryz.sizeOf219
  v138 := Tryz.zeroValue219
  t139 := Tryz.underlying220
  a139 := Tryz.isAgg220
  z139 := Tryz.sizeOf220
  v139 := Tryz.zeroValue220
  g3 := by kernel_rfl
  g4 := by kernel_rfl }

theorem strim_c {E w : World} {R : List Hp} (hH : Has E w [R]) (s : Bs) (hs : s.length ≤ 1000000) : Calls Tryz.prog 105 #[S s, S [0]] w fun e w' => e = .returned (S (Lib.trimB s 0)) ∧ Has E w' [R] := by
  refine (Any.strings_Trim_one trl ⟨s.toArray⟩ 0 (by decide) w (by simp only [ByteArray.size, List.size_toArray]; omega)).mono fun e w' h => ?_
  obtain ⟨h1, h2⟩ := h
  refine ⟨by rw [h1]; rfl, ?_⟩
  rcases h2 with h2 | h2
  · rw [h2]; exact hH
  · rw [h2]; exact Has0.drew hH _
theorem dropZ {s : Bs} : s.dropWhile (· == 0) = [] ↔ ∀ b ∈ s, b = 0 := by
  induction s with
  | nil => simp
  | cons x t ih =>
    rw [List.dropWhile_cons]
    by_cases h : x = 0
    · rw [if_pos (by simpa using h), ih]; simp [h]
    · rw [if_neg (by simpa using h)]; simp [h]
theorem trim_zero {s : Bs} : Lib.trimB s 0 = [] ↔ s = List.replicate s.length 0 := by
  unfold Lib.trimB Lib.trimLeftB Lib.trimRightB
  rw [dropZ, List.eq_replicate_iff]
  constructor
  · intro h
    refine ⟨rfl, ?_⟩
    have h1 : ∀ b ∈ s.reverse.dropWhile (· == 0), b = 0 := fun b hb => h b (List.mem_reverse.2 hb)
    have h2 : s.reverse.dropWhile (· == 0) = [] := by
      cases e : s.reverse.dropWhile (· == 0) with
      | nil => rfl
      | cons x t =>
        have hx := h1 x (by rw [e]; exact List.mem_cons_self ..)
        have hn := List.head?_dropWhile_not (fun b : UInt8 => b == 0) s.reverse
        rw [e] at hn
        simp [hx] at hn
    intro b hb
    exact dropZ.1 h2 b (List.mem_reverse.2 hb)
  · rintro ⟨_, h⟩ b hb
    have := (List.dropWhile_sublist _).subset (List.mem_reverse.1 hb)
    exact h b (List.mem_reverse.1 this)
end Go.Q
namespace Go.Q
open Go.Proofs
set_option linter.unusedVariables false
set_option maxRecDepth 100000
attribute [local irreducible] wpList OK Code.wp
set_option maxHeartbeats 4000000 in
theorem tblank_c {E w : World} {R : List Hp} (hH : Has E w [R]) (s : Bs) (hs : s.length ≤ 1000000) :
    Calls Tryz.prog 65 #[(S s)] w fun e w' => e = .returned (.bool (decide (s = zer s.length))) ∧ Has E w' [R] := by
  refine c_enter (args := [(S s)]) Tryz.func65 rfl Tryz.ntmps65 (by simp) ?_
  refine wp_seq_k fun K1 hK1 => ?_
  refine c_region ?_
  refine s_op (o_assign (v := (.bool false)) rfl ?_)
  refine s_nil ?_
  refine t_norm (hK1 _ _ ?_)
  refine wp_seq_k fun K2 hK2 => ?_
  refine c_region ?_
  refine s_op (o_move (v := (S s)) rfl ?_)
  refine s_op (o_callf (vs := #[(S s), (S [0])]) ca105 rfl (args2 rfl rfl) (strim_c hH.all s (by omega)) ?_)
  rintro _ w5 ⟨rfl, hX3⟩
  refine ⟨_, rfl, ?_⟩
  have hH4 := hX3.of_all
  refine s_op (o_seql (a := (Lib.trimB s 0)) (b := ([] : List UInt8)) rfl rfl ?_)
  refine s_op (o_assign (v := (.bool (decide ((Lib.trimB s 0) = ([] : List UInt8))))) rfl ?_)
  refine s_nil ?_
  refine t_norm (hK2 _ _ ?_)
  refine wp_ret ?_
  refine c_ret1 Tryz.results65  (v := (.bool (decide ((Lib.trimB s 0) = ([] : List UInt8))))) rfl ?_
  exact ⟨by rw [show decide (s = zer s.length) = decide ((Lib.trimB s 0) = ([] : List UInt8)) from decide_eq_decide.2 trim_zero.symm], hH4⟩
end Go.Q
