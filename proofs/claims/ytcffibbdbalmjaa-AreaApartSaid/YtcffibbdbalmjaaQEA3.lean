/-
  Parts of a walk: what functions of the program compute, each told by a theorem.
-/
import Derived.Test.YtcffibbdbalmjaaQEA2
import Derived.Test.YtcffibbdbalmjaaQDevA
set_option linter.unusedVariables false
set_option linter.unusedSimpArgs false
namespace Go.Q
open Go.Proofs
set_option linter.unusedVariables false
set_option maxRecDepth 100000
attribute [local irreducible] wpList OK Code.wp
set_option maxHeartbeats 4000000 in
theorem sum_c {E w : World} {R : List Hp} (hH : Has E w [R]) {v : Value} {l : List Int} (hv : Ints R v l) :
    Calls Try.prog 77 #[v] w fun e w' => e = .returned (.int .i64 (sumS 0 l)) ∧ Has E w' [R] := by
  have hn := hv.le
  refine c_enter (args := [v]) Try.func77 rfl Try.ntmps77 (by simp) ?_
  refine wp_seq_k fun K1 hK1 => ?_
  refine c_region ?_
  refine s_op (o_assign (v := (.int .i64 0)) rfl ?_)
  refine s_nil ?_
  refine t_norm (hK1 _ _ ?_)
  refine wp_seq_k fun K2 hK2 => ?_
  refine c_region ?_
  refine s_op (o_assign (v := (.int .i64 0)) rfl ?_)
  refine s_nil ?_
  refine t_norm (hK2 _ _ ?_)
  refine wp_seq_k fun K3 hK3 => ?_
  refine wp_seq_k fun K4 hK4 => ?_
  refine c_region ?_
  refine s_op (o_move (v := v) rfl ?_)
  refine s_op (o_lenS Try.underlying54 rfl hv ?_)
  refine s_op (o_move (v := (.int .i64 0)) rfl ?_)
  refine s_nil ?_
  refine t_norm (hK4 _ _ ?_)
  refine wp_block ?_
  let I6 : Nat → (Nat → Value) → World → Prop := fun n__ r__ w__ => ∃ (k : Nat) (y : Int), n__ = l.length - k ∧ Has E w__ [R] ∧ (k ≤ l.length) ∧ (sumS 0 l = sumS y (l.drop k)) ∧ (0 ≤ y ∧ y ≤ 9223372036854775807) ∧ r__ 0 = v ∧ r__ 3 = (.int .i64 y) ∧ r__ 6 = v ∧ r__ 7 = (.int .i64 ((l.length : Nat) : Int)) ∧ r__ 8 = (.int .i64 (k : Int))
  refine c_loop I6 _ ⟨0, 0, rfl, hH, Nat.zero_le _, rfl, (by omega), rfl, rfl, rfl, rfl, rfl⟩ ?_
  rintro n_ r9 w7 ⟨k, y, rfl, hH8, hk, hy, hb, e5_0, e5_3, e5_6, e5_7, e5_8⟩
  refine wp_seq_k fun K10 hK10 => ?_
  refine c_region ?_
  refine s_op (o_lss (a := (k : Int)) (b := ((l.length : Nat) : Int)) e5_8 e5_7 ?_)
  refine s_nil ?_
  refine t_norm (hK10 _ _ ?_)
  refine wp_seq_k fun K11 hK11 => ?_
  refine c_cond rfl (fun h12 => ?_) (fun h12 => ?_)
  · -- (k : Int) < ((l.length : Nat) : Int)
    refine wp_skip ?_
    refine t_norm (hK11 _ _ ?_)
    refine wp_seq_k fun K13 hK13 => ?_
    refine wp_block ?_
    refine wp_seq_k fun K14 hK14 => ?_
    refine c_region ?_
    obtain ⟨x18, hx19⟩ : ∃ x_, l[((k : Int)).toNat]? = some x_ := get_some (by omega)
    refine s_op (o_index1 Try.underlying54 ti3 e5_6 hv e5_8 (by omega) hx19 fun b15 o16 hc17 => ?_)
    refine s_op (o_load1 (v := (.int .i64 x18)) Try.underlying3 rfl rfl hH8 (seg_sub 0 rfl) hc17 ?_)
    refine s_op (o_assign (v := (.int .i64 x18)) rfl ?_)
    refine s_nil ?_
    refine t_norm (hK14 _ _ ?_)
    refine wp_seq_k fun K20 hK20 => ?_
    refine wp_seq_k fun K21 hK21 => ?_
    refine c_region ?_
    refine s_op (o_move (v := (.int .i64 x18)) rfl ?_)
    refine s_op (o_move (v := (.int .i64 y)) e5_3 ?_)
    refine s_op (o_sub (a := 9223372036854775807) (b := y) rfl rfl (w64 (by omega) (by omega)) ?_)
    refine s_op (o_gtr (a := x18) (b := 9223372036854775807 - y) rfl rfl ?_)
    refine s_nil ?_
    refine t_norm (hK21 _ _ ?_)
    refine c_cond rfl (fun h22 => ?_) (fun h22 => ?_)
    · -- 9223372036854775807 - y < x18
      refine wp_seq_k fun K23 hK23 => ?_
      refine c_region ?_
      refine s_op (o_assign (v := (.int .i64 9223372036854775807)) rfl ?_)
      refine s_nil ?_
      refine t_norm (hK23 _ _ ?_)
      refine wp_ret ?_
      refine t_ret (b_ret (t_ret (t_ret (b_ret (t_ret (c_ret1 Try.results77  (v := (.int .i64 9223372036854775807)) rfl ?_))))))
      exact ⟨by rw [hy, drop_of (by simpa using hx19), sumS, if_pos (by omega)], hH8⟩
    · -- not: 9223372036854775807 - y < x18
      refine wp_skip ?_
      refine t_norm (hK20 _ _ ?_)
      refine c_region ?_
      refine s_op (o_move (v := (.int .i64 y)) e5_3 ?_)
      refine s_op (o_move (v := (.int .i64 x18)) rfl ?_)
      refine s_op (o_max (a := x18) (b := 0) rfl rfl ?_)
      refine s_op (o_add (a := y) (b := max x18 0) rfl rfl (w64 (by omega) (by omega)) ?_)
      refine s_op (o_assign (v := (.int .i64 (y + (max x18 0)))) rfl ?_)
      refine s_nil ?_
      refine b_norm ?_
      refine t_norm (hK13 _ _ ?_)
      refine c_region ?_
      refine s_op (o_add (a := (k : Int)) (b := 1) e5_8 rfl (w64 (by omega) (by omega)) ?_)
      refine s_op (o_move (v := (.int .i64 ((k : Int) + 1))) rfl ?_)
      refine s_nil ?_
      refine t_norm ⟨l.length - (k + 1), _, rfl, ?_, ?_⟩
      · omega
      · exact ⟨(k + 1), (y + (max x18 0)), rfl, hH8, (by omega), (by rw [hy, drop_of (by simpa using hx19), sumS, if_neg (by omega)]), (by omega), e5_0, rfl, e5_6, e5_7, rfl⟩
  · -- not: (k : Int) < ((l.length : Nat) : Int)
    refine wp_exit ?_
    refine t_exit (t_exit (x_in (?_)))
    refine t_norm (hK3 _ _ ?_)
    refine wp_seq_k fun K24 hK24 => ?_
    refine c_region ?_
    refine s_op (o_move (v := (.int .i64 y)) e5_3 ?_)
    refine s_op (o_assign (v := (.int .i64 y)) rfl ?_)
    refine s_nil ?_
    refine t_norm (hK24 _ _ ?_)
    refine wp_ret ?_
    refine c_ret1 Try.results77  (v := (.int .i64 y)) rfl ?_
    exact ⟨by rw [hy, List.drop_of_length_le (by omega)]; rfl, hH8⟩
set_option maxHeartbeats 4000000 in
theorem aset_yes {E w : World} {R sg : List Hp} {ab db pb k : Nat} {fr n : Int} {p : Pw} {la : List Bs} {lo : List (Int × Bs)} (hH : Has E w [sg, [Hp.one pb (.cells #[(.bool p.off), (.bool p.armed), (.int .i64 p.left), (.int .i64 p.uses)] 101 (0, 0))], [Hp.one ab (.cells #[(.pointer (some ⟨db, 0, none⟩)), (.int .i64 fr), (.int .i64 n)] 139 (0, 0))], R]) (hd : DevAt pb sg db la lo) (hp : Calm p k) (hk : k ≤ 100000) (h64 : Full64 la) (hlo : LoOk lo la.length) (hfr : 0 ≤ fr) (hn : 1 ≤ n) (hfn : fr + n ≤ la.length) (hla : la.length ≤ 4096) {at_ : Int} {v : Value} {data : List Bs} (hv : Sl R 1 v data.length (data.map sV)) (hdn : data.length ≤ 1000) (hdl : data.flatten.length ≤ 1000000) (hat : 0 ≤ at_ ∧ at_ ≤ 4611686018427387904) (hsz : (data.flatten.length : Int) ≤ n * 64) :
    Calls Try.prog 25 #[(.pointer (some ⟨ab, 0, none⟩)), (.int .i64 at_), v] w fun e w' => ∃ sg' p', e = .returned (.int .i64 0) ∧ DevAt pb sg' db la (setP la (allP fr (n * 64) (at_ % (n * 64)) (data.flatten.length : Int)) lo data.flatten) ∧ LoOk (setP la (allP fr (n * 64) (at_ % (n * 64)) (data.flatten.length : Int)) lo data.flatten) la.length ∧ Calm p' (k + data.flatten.length) ∧ Has E w' [sg', [Hp.one pb (.cells #[(.bool p'.off), (.bool p'.armed), (.int .i64 p'.left), (.int .i64 p'.uses)] 101 (0, 0))], [Hp.one ab (.cells #[(.pointer (some ⟨db, 0, none⟩)), (.int .i64 fr), (.int .i64 n)] 139 (0, 0))], R] := by
  obtain ⟨hat1, hat2⟩ := hat
  refine c_enter (args := [(.pointer (some ⟨ab, 0, none⟩)), (.int .i64 at_), v]) Try.func25 rfl Try.ntmps25 (by simp) ?_
  refine wp_seq_k fun K1 hK1 => ?_
  refine c_region ?_
  refine s_op (o_assign (v := (.int .i64 0)) rfl ?_)
  refine s_nil ?_
  refine t_norm (hK1 _ _ ?_)
  refine wp_seq_k fun K2 hK2 => ?_
  refine c_region ?_
  refine s_op (o_assign (v := (.int .i64 0)) rfl ?_)
  refine s_nil ?_
  refine t_norm (hK2 _ _ ?_)
  refine wp_seq_k fun K3 hK3 => ?_
  refine wp_seq_k fun K4 hK4 => ?_
  refine c_region ?_
  refine s_op (o_move (v := v) rfl ?_)
  refine s_op (o_lenS Try.underlying53 rfl hv ?_)
  refine s_op (o_move (v := (.int .i64 0)) rfl ?_)
  refine s_nil ?_
  refine t_norm (hK4 _ _ ?_)
  refine wp_block ?_
  let I6 : Nat → (Nat → Value) → World → Prop := fun n__ r__ w__ => ∃ (i : Nat) (z : Int), n__ = data.length - i ∧ Has E w__ [sg, [Hp.one pb (.cells #[(.bool p.off), (.bool p.armed), (.int .i64 p.left), (.int .i64 p.uses)] 101 (0, 0))], [Hp.one ab (.cells #[(.pointer (some ⟨db, 0, none⟩)), (.int .i64 fr), (.int .i64 n)] 139 (0, 0))], R] ∧ (i ≤ data.length) ∧ (z = ((data.take i).flatten.length : Int)) ∧ r__ 0 = (.pointer (some ⟨ab, 0, none⟩)) ∧ r__ 1 = (.int .i64 at_) ∧ r__ 2 = v ∧ r__ 6 = (.int .i64 0) ∧ r__ 7 = (.int .i64 z) ∧ r__ 17 = v ∧ r__ 18 = (.int .i64 ((data.length : Nat) : Int)) ∧ r__ 19 = (.int .i64 (i : Int))
  refine c_loop I6 _ ⟨0, 0, rfl, hH, Nat.zero_le _, (by simp), rfl, rfl, rfl, rfl, rfl, rfl, rfl, rfl⟩ ?_
  rintro n_ r9 w7 ⟨i, z, rfl, hH8, hi, hz, e5_0, e5_1, e5_2, e5_6, e5_7, e5_17, e5_18, e5_19⟩
  have hzl := flat_take_le data i
  refine wp_seq_k fun K10 hK10 => ?_
  refine c_region ?_
  refine s_op (o_lss (a := (i : Int)) (b := ((data.length : Nat) : Int)) e5_19 e5_18 ?_)
  refine s_nil ?_
  refine t_norm (hK10 _ _ ?_)
  refine wp_seq_k fun K11 hK11 => ?_
  refine c_cond rfl (fun h12 => ?_) (fun h12 => ?_)
  · -- (i : Int) < ((data.length : Nat) : Int)
    refine wp_skip ?_
    refine t_norm (hK11 _ _ ?_)
    refine wp_seq_k fun K13 hK13 => ?_
    refine wp_block ?_
    refine wp_seq_k fun K14 hK14 => ?_
    refine c_region ?_
    obtain ⟨x18, hx19⟩ : ∃ x_, data[((i : Int)).toNat]? = some x_ := get_some (by omega)
    refine s_op (o_index1 Try.underlying53 ti9 e5_17 hv e5_19 (by omega) hx19 fun b15 o16 hc17 => ?_)
    refine s_op (o_load1 (v := (S x18)) Try.underlying9 rfl rfl hH8 (seg_sub 3 rfl) hc17 ?_)
    refine s_op (o_assign (v := (S x18)) rfl ?_)
    refine s_nil ?_
    refine t_norm (hK14 _ _ ?_)
    refine c_region ?_
    refine s_op (o_move (v := (.int .i64 z)) e5_7 ?_)
    refine s_op (o_move (v := (S x18)) rfl ?_)
    refine s_op (o_slen Try.underlying9 rfl ?_)
    refine s_op (o_buildSlice (ps := #[(0, (.int .i64 z)), (1, (.int .i64 (x18.length : Int)))]) (cells := #[(.int .i64 z), (.int .i64 (x18.length : Int))]) Try.underlying54 ti3 (by decide) (parts2 rfl rfl) (by kernel_rfl) hH8 fun b20 w21 hH22 => ?_)
    have hxl_ := flat_take_le data (i + 1)
    rw [flatten_take_succ (show data[i]? = some _ from hx19), List.length_append] at hxl_
    refine s_op (o_callf (vs := #[(.slice (some ⟨b20, 0, none⟩) 2 2)]) ca77 rfl (args1 rfl) ((by have h_ := sum_c hH22.all (l := [z, (x18.length : Int)]) ((sl_lit (f := iV) (l := [z, (x18.length : Int)]) rfl rfl (by simp)).mono (seg_sub 0 rfl)); rwa [sum2 ⟨by omega, by omega⟩ ⟨by omega, by omega⟩] at h_)) ?_)
    rintro _ w25 ⟨rfl, hX23⟩
    refine ⟨_, rfl, ?_⟩
    have hH24 := hX23.of_all
    refine s_op (o_assign (v := (.int .i64 (z + (x18.length : Int)))) rfl ?_)
    refine s_nil ?_
    refine b_norm ?_
    refine t_norm (hK13 _ _ ?_)
    refine c_region ?_
    refine s_op (o_add (a := (i : Int)) (b := 1) e5_19 rfl (w64 (by omega) (by omega)) ?_)
    refine s_op (o_move (v := (.int .i64 ((i : Int) + 1))) rfl ?_)
    refine s_nil ?_
    have hH26 : Has E w25 [sg, [Hp.one pb (.cells #[(.bool p.off), (.bool p.armed), (.int .i64 p.left), (.int .i64 p.uses)] 101 (0, 0))], [Hp.one ab (.cells #[(.pointer (some ⟨db, 0, none⟩)), (.int .i64 fr), (.int .i64 n)] 139 (0, 0))], R] := ((((hH24.front 4 rfl).front 4 rfl).front 4 rfl).front 4 rfl).first 4 rfl
    refine t_norm ⟨data.length - (i + 1), _, rfl, ?_, ?_⟩
    · omega
    · exact ⟨(i + 1), (z + (x18.length : Int)), rfl, hH26, (by omega), (by rw [flatten_take_succ (show data[i]? = some _ from hx19), List.length_append]; omega), e5_0, e5_1, e5_2, e5_6, rfl, e5_17, e5_18, rfl⟩
  · -- not: (i : Int) < ((data.length : Nat) : Int)
    refine wp_exit ?_
    refine t_exit (t_exit (x_in (?_)))
    refine t_norm (hK3 _ _ ?_)
    refine wp_seq_k fun K27 hK27 => ?_
    refine wp_seq_k fun K28 hK28 => ?_
    refine c_region ?_
    refine s_op (o_move (v := (.pointer (some ⟨ab, 0, none⟩))) e5_0 ?_)
    refine s_op (o_move (v := (.int .i64 at_)) e5_1 ?_)
    refine s_op (o_move (v := (.int .i64 z)) e5_7 ?_)
    refine s_op (o_callf (vs := #[(.pointer (some ⟨ab, 0, none⟩)), (.int .i64 at_), (.int .i64 z)]) ca78 rfl (args3 rfl rfl rfl) (amay_c (hH8.front 2 rfl).all1 ⟨by omega, by omega⟩ at_ z) ?_)
    rintro _ w31 ⟨rfl, hX29⟩
    refine ⟨_, rfl, ?_⟩
    have hH30 : Has E w31 [[Hp.one ab (.cells #[(.pointer (some ⟨db, 0, none⟩)), (.int .i64 fr), (.int .i64 n)] 139 (0, 0))], sg, [Hp.one pb (.cells #[(.bool p.off), (.bool p.armed), (.int .i64 p.left), (.int .i64 p.uses)] 101 (0, 0))], R] := hX29.of_all1
    refine s_op (o_not2 (b := decide (0 ≤ at_ ∧ at_ ≤ 4611686018427387904 ∧ 0 ≤ z ∧ z ≤ n * 64)) (b' := decide (¬ (0 ≤ at_ ∧ at_ ≤ 4611686018427387904 ∧ 0 ≤ z ∧ z ≤ n * 64))) rfl not_dec ?_)
    refine s_nil ?_
    refine t_norm (hK28 _ _ ?_)
    refine c_cond rfl (fun h32 => ?_) (fun h32 => ?_)
    · -- ¬ (0 ≤ at_ ∧ at_ ≤ 4611686018427387904 ∧ 0 ≤ z ∧ z ≤ n * 64)
      have hzz : z = (data.flatten.length : Int) := by rw [hz, show i = data.length by omega, List.take_of_length_le (Nat.le_refl _)]
      exact absurd (show _ ∧ _ ∧ _ ∧ _ from ⟨by omega, by omega, by omega, by omega⟩) h32
    · -- not: ¬ (0 ≤ at_ ∧ at_ ≤ 4611686018427387904 ∧ 0 ≤ z ∧ z ≤ n * 64)
      have hzz : z = (data.flatten.length : Int) := by rw [hz, show i = data.length by omega, List.take_of_length_le (Nat.le_refl _)]
      refine wp_skip ?_
      refine t_norm (hK27 _ _ ?_)
      refine wp_seq_k fun K33 hK33 => ?_
      refine wp_seq_k fun K34 hK34 => ?_
      refine c_region ?_
      refine s_op (o_move (v := (.pointer (some ⟨ab, 0, none⟩))) e5_0 ?_)
      refine s_op (o_nilCheck rfl ?_)
      refine s_op (o_fieldAddr (k := 0) (fun _ => by kernel_rfl) rfl ?_)
      refine s_op (o_load1 (v := (.pointer (some ⟨db, 0, none⟩))) Try.underlying46 rfl rfl hH30 (seg_sub 0 rfl) (CellsAt.one rfl) ?_)
      refine s_op (o_callf (vs := #[(.pointer (some ⟨db, 0, none⟩))]) ca62 rfl (args1 rfl) (don_d (p := p) (la := la) (lo := lo) ((hH30.front 2 rfl).front 2 rfl).all2 hd ) ?_)
      rintro _ w37 ⟨rfl, hX35⟩
      refine ⟨_, rfl, ?_⟩
      have hH36 : Has E w37 [sg, [Hp.one pb (.cells #[(.bool p.off), (.bool p.armed), (.int .i64 p.left), (.int .i64 p.uses)] 101 (0, 0))], [Hp.one ab (.cells #[(.pointer (some ⟨db, 0, none⟩)), (.int .i64 fr), (.int .i64 n)] 139 (0, 0))], R] := hX35.of_all2
      refine s_op (o_not rfl ?_)
      refine s_nil ?_
      refine t_norm (hK34 _ _ ?_)
      refine c_condb rfl (fun h38 => ?_) (fun h38 => ?_)
      · -- !(!p.off)
        have h38_n : (!p.off) = false := by simpa using h38
        have h38_n_n : p.off = true := by simpa using h38_n
        exact absurd h38 (by rw [hp.off]; decide)
      · -- not: !(!p.off)
        have h38_n : (!p.off) = true := by simpa using h38
        have h38_n_n : p.off = false := by simpa using h38_n
        refine wp_skip ?_
        refine t_norm (hK33 _ _ ?_)
        refine wp_seq_k fun K39 hK39 => ?_
        refine c_region ?_
        refine s_op (o_move (v := v) e5_2 ?_)
        refine s_op (o_callf (vs := #[v, (S ([] : List UInt8))]) ca79 rfl (args2 rfl rfl) (join_c hH36.all (l := data) (hv.mono (seg_sub 3 rfl)) (by first | omega | simp) (by first | omega | (simp only [List.flatten_cons, List.flatten_nil, List.length_append, List.length_take, List.length_drop, List.length_nil]; omega))) ?_)
        rintro _ w42 ⟨rfl, hX40⟩
        refine ⟨_, rfl, ?_⟩
        have hH41 := hX40.of_all
        refine s_op (o_assign (v := (S data.flatten)) rfl ?_)
        refine s_nil ?_
        refine t_norm (hK39 _ _ ?_)
        refine wp_seq_k fun K43 hK43 => ?_
        refine wp_seq_k fun K44 hK44 => ?_
        refine c_region ?_
        refine s_op (o_move (v := (.pointer (some ⟨ab, 0, none⟩))) e5_0 ?_)
        refine s_op (o_move (v := (.int .i64 at_)) e5_1 ?_)
        refine s_op (o_move (v := (.int .i64 z)) e5_7 ?_)
        refine s_op (o_callf (vs := #[(.pointer (some ⟨ab, 0, none⟩)), (.int .i64 at_), (.int .i64 z)]) ca80 rfl (args3 rfl rfl rfl) (pieces_c (hH41.front 2 rfl).all1 ⟨by omega, by omega⟩ ⟨by omega, by omega⟩ (at_ := at_) (size := z) ⟨by omega, by omega⟩ ⟨by omega, by omega⟩) ?_)
        rintro _ w50 ⟨v45, s46, rfl, ho47, hX48⟩
        refine ⟨_, rfl, ?_⟩
        have hH49 : Has E w50 [s46, [Hp.one ab (.cells #[(.pointer (some ⟨db, 0, none⟩)), (.int .i64 fr), (.int .i64 n)] 139 (0, 0))], sg, [Hp.one pb (.cells #[(.bool p.off), (.bool p.armed), (.int .i64 p.left), (.int .i64 p.uses)] 101 (0, 0))], R] := hX48.of_all2
        refine s_op (o_lenS Try.underlying142 rfl ho47.sl ?_)
        refine s_op (o_move (v := (.int .i64 0)) rfl ?_)
        refine s_nil ?_
        refine t_norm (hK44 _ _ ?_)
        refine wp_block ?_
        have hpl := pieces_count (fr := fr) (L := n * 64) z.toNat (at_ % (n * 64)) z
        have hpk : ∀ p ∈ (allP fr (n * 64) (at_ % (n * 64)) z), PcOk fr n p := pieces_ok (fr := fr) (n := n) (by omega) z.toNat (at_ % (n * 64)) z (Int.emod_nonneg _ (by omega)) (Int.emod_lt_of_pos _ (by omega))
        have hpe : (allP fr (n * 64) (at_ % (n * 64)) z).length ≤ z.toNat := hpl
        have hpn : plen (allP fr (n * 64) (at_ % (n * 64)) z) = z := pieces_len (by omega) _ _ _ (Int.emod_nonneg _ (by omega)) (by omega) (Nat.le_refl _)
        let I52 : Nat → (Nat → Value) → World → Prop := fun n__ r__ w__ => ∃ (j : Nat) (rest : Bs) (lo2 : List (Int × Bs)) (p2 : Pw) (sg2 : List Hp), n__ = (allP fr (n * 64) (at_ % (n * 64)) z).length - j ∧ Has E w__ [sg2, [Hp.one pb (.cells #[(.bool p2.off), (.bool p2.armed), (.int .i64 p2.left), (.int .i64 p2.uses)] 101 (0, 0))], s46, [Hp.one ab (.cells #[(.pointer (some ⟨db, 0, none⟩)), (.int .i64 fr), (.int .i64 n)] 139 (0, 0))], R] ∧ (j ≤ (allP fr (n * 64) (at_ % (n * 64)) z).length) ∧ (DevAt pb sg2 db la lo2) ∧ (LoOk lo2 la.length) ∧ (Calm p2 (k + j)) ∧ ((rest.length : Int) = plen ((allP fr (n * 64) (at_ % (n * 64)) z).drop j)) ∧ (setP la (allP fr (n * 64) (at_ % (n * 64)) z) lo data.flatten = setP la ((allP fr (n * 64) (at_ % (n * 64)) z).drop j) lo2 rest) ∧ r__ 0 = (.pointer (some ⟨ab, 0, none⟩)) ∧ r__ 1 = (.int .i64 at_) ∧ r__ 2 = v ∧ r__ 7 = (.int .i64 z) ∧ r__ 10 = (S rest) ∧ r__ 17 = v ∧ r__ 18 = (.int .i64 ((data.length : Nat) : Int)) ∧ r__ 19 = (.int .i64 (i : Int)) ∧ r__ 20 = (.bool (decide ((i : Int) < ((data.length : Nat) : Int)))) ∧ r__ 33 = (.bool (decide (¬ (0 ≤ at_ ∧ at_ ≤ 4611686018427387904 ∧ 0 ≤ z ∧ z ≤ n * 64)))) ∧ r__ 39 = (.bool (!(!p.off))) ∧ r__ 45 = v45 ∧ r__ 46 = (.int .i64 (((allP fr (n * 64) (at_ % (n * 64)) z).length : Nat) : Int)) ∧ r__ 47 = (.int .i64 (j : Int))
        have hH53 : Has E w50 [sg, [Hp.one pb (.cells #[(.bool p.off), (.bool p.armed), (.int .i64 p.left), (.int .i64 p.uses)] 101 (0, 0))], s46, [Hp.one ab (.cells #[(.pointer (some ⟨db, 0, none⟩)), (.int .i64 fr), (.int .i64 n)] 139 (0, 0))], R] := (((((hH49.front 4 rfl).front 2 rfl).front 2 rfl).front 4 rfl).front 4 rfl).first 5 rfl
        refine c_loop I52 _ ⟨0, data.flatten, lo, p, sg, rfl, hH53, Nat.zero_le _, hd, hlo, hp, (by rw [List.drop_zero, hpn]; omega), rfl, e5_0, e5_1, e5_2, e5_7, rfl, e5_17, e5_18, e5_19, rfl, rfl, rfl, rfl, rfl, rfl⟩ ?_
        rintro n_ r56 w54 ⟨j, rest, lo2, p2, sg2, rfl, hH55, hj, hd2, hlo2, hp2, hrest, hset, e51_0, e51_1, e51_2, e51_7, e51_10, e51_17, e51_18, e51_19, e51_20, e51_33, e51_39, e51_45, e51_46, e51_47⟩
        refine wp_seq_k fun K57 hK57 => ?_
        refine c_region ?_
        refine s_op (o_lss (a := (j : Int)) (b := (((allP fr (n * 64) (at_ % (n * 64)) z).length : Nat) : Int)) e51_47 e51_46 ?_)
        refine s_nil ?_
        refine t_norm (hK57 _ _ ?_)
        refine wp_seq_k fun K58 hK58 => ?_
        refine c_cond rfl (fun h59 => ?_) (fun h59 => ?_)
        · -- (j : Int) < (((allP fr (n * 64) (at_ % (n * 64)) z).length : Nat) : Int)
          refine wp_skip ?_
          refine t_norm (hK58 _ _ ?_)
          refine wp_seq_k fun K60 hK60 => ?_
          refine wp_block ?_
          refine wp_seq_k fun K61 hK61 => ?_
          refine c_region ?_
          obtain ⟨x65, hx66⟩ : ∃ x_, (allP fr (n * 64) (at_ % (n * 64)) z)[((j : Int)).toNat]? = some x_ := get_some (by omega)
          refine s_op (o_indexF pcC_len Try.underlying142 ti145 e51_45 ho47.sl rfl e51_47 (by omega) hx66 fun b62 o63 hc64 => ?_)
          refine s_op (o_loadN (cs := [(.int .i64 x65.sec), (.int .i64 x65.frm), (.int .i64 x65.upto)]) Try.underlying145 rfl ti145 rfl hH55 (seg_sub 2 rfl) hc64 ?_)
          refine s_op (o_alloc (cs := #[(.int .i64 0), (.int .i64 0), (.int .i64 0)]) ti145 rfl hH55 fun b67 w68 hH69 => ?_)
          refine s_eff (o_storeN (vs := [(.int .i64 x65.sec), (.int .i64 x65.frm), (.int .i64 x65.upto)]) (c' := #[(.int .i64 x65.sec), (.int .i64 x65.frm), (.int .i64 x65.upto)]) ti145 rfl rfl rfl rfl (by intro u hu; simp only [List.mem_cons, List.not_mem_nil, or_false] at hu; rcases hu with rfl | rfl | rfl <;> first | rfl) (by simp) (by kernel_rfl) (hH69.front 0 rfl) fun w70 hH71 => ?_)
          refine s_nil ?_
          refine t_norm (hK61 _ _ ?_)
          refine wp_seq_k fun K72 hK72 => ?_
          have hnd73 : (sg2 ++ [Hp.one pb (.cells #[(.bool p2.off), (.bool p2.armed), (.int .i64 p2.left), (.int .i64 p2.uses)] 101 (0, 0))]).Nodup := dev_nodup hd2 ((hH71.front 2 rfl).front 2 rfl)
          refine c_flow [[Hp.one b67 (.cells #[(.int .i64 x65.sec), (.int .i64 x65.frm), (.int .i64 x65.upto)] 145 (0, 0))], sg2, [Hp.one pb (.cells #[(.bool p2.off), (.bool p2.armed), (.int .i64 p2.left), (.int .i64 p2.uses)] 101 (0, 0))], s46, [Hp.one ab (.cells #[(.pointer (some ⟨db, 0, none⟩)), (.int .i64 fr), (.int .i64 n)] 139 (0, 0))], R] (fun i_ => match i_ with | _ => []) (fun i_ v_ h_ => match i_ with | 0 => v_ = (.pointer (some ⟨ab, 0, none⟩)) ∧ h_ = [] | 1 => v_ = (.pointer (some ⟨ab, 0, none⟩)) ∧ h_ = [] | 2 => v_ = (.pointer (some ⟨ab, 0, none⟩)) ∧ h_ = [] | 3 => v_ = (.pointer (some ⟨db, 0, none⟩)) ∧ h_ = [] | 4 => v_ = (.pointer (some ⟨b67, 0, none⟩)) ∧ h_ = [] | 5 => v_ = (.int .i64 x65.sec) ∧ h_ = [] | 6 => v_ = (.tuple #[(S (readS p2 la lo2 x65.sec)), (.int .i64 (readE p2 la x65.sec))]) ∧ h_ = [] | 7 => v_ = (.tuple #[(S (readS p2 la lo2 x65.sec)), (.int .i64 (readE p2 la x65.sec))]) ∧ h_ = [] | 8 => v_ = (S (readS p2 la lo2 x65.sec)) ∧ h_ = [] | 9 => v_ = (.int .i64 (readE p2 la x65.sec)) ∧ h_ = [] | 10 => v_ = (S (readS p2 la lo2 x65.sec)) ∧ h_ = [] | 11 => v_ = (.int .i64 (readE p2 la x65.sec)) ∧ h_ = [] | _ => True) mixed (by kernel_rfl) (flow_has (cs := []) hH71 rfl) ?_ ?_
          · intro i_ o_ ho_ r' w' G hs_ ht
            match i_, ho_ with
            | 0, ho_ =>
              obtain rfl := Option.some.inj ho_
              have e0 : r' 0 = (.pointer (some ⟨ab, 0, none⟩)) := (ht.was 0 (by kernel_rfl)).trans e51_0
              have hG := ht.has.drop
              refine o_move (v := (.pointer (some ⟨ab, 0, none⟩))) e0 ?_
              exact ⟨_, ⟨rfl, rfl⟩, hG⟩
            | 1, ho_ =>
              obtain rfl := Option.some.inj ho_
              obtain ⟨e52, eh0⟩ := (ht.done 0 _ rfl rfl).1
              have hG := ht.has.drop
              refine o_nilCheck e52 ?_
              exact ⟨_, ⟨rfl, rfl⟩, hG⟩
            | 2, ho_ =>
              obtain rfl := Option.some.inj ho_
              obtain ⟨e53, eh1⟩ := (ht.done 1 _ rfl rfl).1
              have hG := ht.has.drop
              refine o_fieldAddr (k := 0) (fun _ => by kernel_rfl) e53 ?_
              exact ⟨_, ⟨rfl, rfl⟩, hG⟩
            | 3, ho_ =>
              obtain rfl := Option.some.inj ho_
              obtain ⟨e54, eh2⟩ := (ht.done 2 _ rfl rfl).1
              have hG := ht.has.drop
              refine o_load1 (v := (.pointer (some ⟨db, 0, none⟩))) Try.underlying46 rfl e54 hG (ht.fr [Hp.one ab (.cells #[(.pointer (some ⟨db, 0, none⟩)), (.int .i64 fr), (.int .i64 n)] 139 (0, 0))] (by simp)) (CellsAt.one rfl) ?_
              exact ⟨_, ⟨rfl, rfl⟩, hG⟩
            | 4, ho_ =>
              obtain rfl := Option.some.inj ho_
              have e12 : r' 12 = (.pointer (some ⟨b67, 0, none⟩)) := ht.was 12 (by kernel_rfl)
              have hG := ht.has.drop
              refine o_fieldAddr (k := 0) (fun _ => by kernel_rfl) e12 ?_
              exact ⟨_, ⟨rfl, rfl⟩, hG⟩
            | 5, ho_ =>
              obtain rfl := Option.some.inj ho_
              obtain ⟨e56, eh4⟩ := (ht.done 4 _ rfl rfl).1
              have hG := ht.has.drop
              refine o_load1 (v := (.int .i64 x65.sec)) Try.underlying3 rfl e56 hG (ht.fr [Hp.one b67 (.cells #[(.int .i64 x65.sec), (.int .i64 x65.frm), (.int .i64 x65.upto)] 145 (0, 0))] (by simp)) (CellsAt.one rfl) ?_
              exact ⟨_, ⟨rfl, rfl⟩, hG⟩
            | 6, ho_ =>
              obtain rfl := Option.some.inj ho_
              obtain ⟨e55, eh3⟩ := (ht.done 3 _ rfl rfl).1
              obtain ⟨e57, eh5⟩ := (ht.done 5 _ rfl rfl).1
              have hG := ht.has.drop
              refine o_callf (vs := #[(.pointer (some ⟨db, 0, none⟩)), (.int .i64 x65.sec)]) ca33 rfl (args2 e55 e57) (read_r (p := p2) (la := la) (lo := lo2) hG.all hd2 hnd73 (in_sub (ht.fr sg2 (by simp)) (ht.fr [Hp.one pb (.cells #[(.bool p2.off), (.bool p2.armed), (.int .i64 p2.left), (.int .i64 p2.uses)] 101 (0, 0))] (by simp))) x65.sec) ?_
              rintro _ w76 ⟨rfl, hX74⟩
              refine ⟨_, rfl, ?_⟩
              have hH75 := hX74.of_all
              exact ⟨_, ⟨rfl, rfl⟩, hH75⟩
            | 7, ho_ =>
              obtain rfl := Option.some.inj ho_
              obtain ⟨e58, eh6⟩ := (ht.done 6 _ rfl rfl).1
              have hG := ht.has.drop
              refine o_move (v := (.tuple #[(S (readS p2 la lo2 x65.sec)), (.int .i64 (readE p2 la x65.sec))])) e58 ?_
              exact ⟨_, ⟨rfl, rfl⟩, hG⟩
            | 8, ho_ =>
              obtain rfl := Option.some.inj ho_
              obtain ⟨e51, eh7⟩ := (ht.done 7 _ rfl rfl).1
              have hG := ht.has.drop
              refine o_extract (v := (S (readS p2 la lo2 x65.sec))) e51 rfl ?_
              exact ⟨_, ⟨rfl, rfl⟩, hG⟩
            | 9, ho_ =>
              obtain rfl := Option.some.inj ho_
              obtain ⟨e51, eh7⟩ := (ht.done 7 _ rfl rfl).1
              have hG := ht.has.drop
              refine o_extract (v := (.int .i64 (readE p2 la x65.sec))) e51 rfl ?_
              exact ⟨_, ⟨rfl, rfl⟩, hG⟩
            | 10, ho_ =>
              obtain rfl := Option.some.inj ho_
              obtain ⟨e59, eh8⟩ := (ht.done 8 _ rfl rfl).1
              have hG := ht.has.drop
              refine o_assign (v := (S (readS p2 la lo2 x65.sec))) e59 ?_
              exact ⟨_, ⟨rfl, rfl⟩, hG⟩
            | 11, ho_ =>
              obtain rfl := Option.some.inj ho_
              obtain ⟨e60, eh9⟩ := (ht.done 9 _ rfl rfl).1
              have hG := ht.has.drop
              refine o_assign (v := (.int .i64 (readE p2 la x65.sec))) e60 ?_
              exact ⟨_, ⟨rfl, rfl⟩, hG⟩
            | i_ + 12, ho_ => exact absurd ho_ (by simp)
          · intro vs77 hs78 w79 hT80 hH81
            obtain ⟨e0_, eh0_⟩ := hT80 0 _ rfl
            obtain ⟨e1_, eh1_⟩ := hT80 1 _ rfl
            obtain ⟨e2_, eh2_⟩ := hT80 2 _ rfl
            obtain ⟨e3_, eh3_⟩ := hT80 3 _ rfl
            obtain ⟨e4_, eh4_⟩ := hT80 4 _ rfl
            obtain ⟨e5_, eh5_⟩ := hT80 5 _ rfl
            obtain ⟨e6_, eh6_⟩ := hT80 6 _ rfl
            obtain ⟨e7_, eh7_⟩ := hT80 7 _ rfl
            obtain ⟨e8_, eh8_⟩ := hT80 8 _ rfl
            obtain ⟨e9_, eh9_⟩ := hT80 9 _ rfl
            obtain ⟨e10_, eh10_⟩ := hT80 10 _ rfl
            obtain ⟨e11_, eh11_⟩ := hT80 11 _ rfl
            have hH82 : Has E w79 ([[Hp.one b67 (.cells #[(.int .i64 x65.sec), (.int .i64 x65.frm), (.int .i64 x65.upto)] 145 (0, 0))], sg2, [Hp.one pb (.cells #[(.bool p2.off), (.bool p2.armed), (.int .i64 p2.left), (.int .i64 p2.uses)] 101 (0, 0))], s46, [Hp.one ab (.cells #[(.pointer (some ⟨db, 0, none⟩)), (.int .i64 fr), (.int .i64 n)] 139 (0, 0))], R] ++ []) := flow_back (cs := []) hH81 (by show (hs78 0 ++ (hs78 1 ++ (hs78 2 ++ (hs78 3 ++ (hs78 4 ++ (hs78 5 ++ (hs78 6 ++ (hs78 7 ++ (hs78 8 ++ (hs78 9 ++ (hs78 10 ++ (hs78 11 ++ [])))))))))))) = _; rw [eh0_, eh1_, eh2_, eh3_, eh4_, eh5_, eh6_, eh7_, eh8_, eh9_, eh10_, eh11_]; rfl)
            generalize hr84 : puts vs77 _ 0 _ = r83
            have e85_0 : r83 0 = (.pointer (some ⟨ab, 0, none⟩)) := by rw [← hr84]; exact e51_0
            have e85_1 : r83 1 = (.int .i64 at_) := by rw [← hr84]; exact e51_1
            have e85_2 : r83 2 = v := by rw [← hr84]; exact e51_2
            have e85_7 : r83 7 = (.int .i64 z) := by rw [← hr84]; exact e51_7
            have e85_10 : r83 10 = (S rest) := by rw [← hr84]; exact e51_10
            have e85_12 : r83 12 = (.pointer (some ⟨b67, 0, none⟩)) := by rw [← hr84]; exact rfl
            have e85_13 : r83 13 = (S (readS p2 la lo2 x65.sec)) := by rw [← hr84]; exact e10_
            have e85_14 : r83 14 = (.int .i64 (readE p2 la x65.sec)) := by rw [← hr84]; exact e11_
            have e85_17 : r83 17 = v := by rw [← hr84]; exact e51_17
            have e85_18 : r83 18 = (.int .i64 ((data.length : Nat) : Int)) := by rw [← hr84]; exact e51_18
            have e85_19 : r83 19 = (.int .i64 (i : Int)) := by rw [← hr84]; exact e51_19
            have e85_20 : r83 20 = (.bool (decide ((i : Int) < ((data.length : Nat) : Int)))) := by rw [← hr84]; exact e51_20
            have e85_33 : r83 33 = (.bool (decide (¬ (0 ≤ at_ ∧ at_ ≤ 4611686018427387904 ∧ 0 ≤ z ∧ z ≤ n * 64)))) := by rw [← hr84]; exact e51_33
            have e85_39 : r83 39 = (.bool (!(!p.off))) := by rw [← hr84]; exact e51_39
            have e85_45 : r83 45 = v45 := by rw [← hr84]; exact e51_45
            have e85_46 : r83 46 = (.int .i64 (((allP fr (n * 64) (at_ % (n * 64)) z).length : Nat) : Int)) := by rw [← hr84]; exact e51_46
            have e85_47 : r83 47 = (.int .i64 (j : Int)) := by rw [← hr84]; exact e51_47
            have e85_48 : r83 48 = (.bool (decide ((j : Int) < (((allP fr (n * 64) (at_ % (n * 64)) z).length : Nat) : Int)))) := by rw [← hr84]; exact rfl
            refine t_norm (hK72 _ _ ?_)
            refine wp_seq_k fun K86 hK86 => ?_
            refine wp_seq_k fun K87 hK87 => ?_
            refine c_region ?_
            refine s_op (o_move (v := (.int .i64 (readE p2 la x65.sec))) e85_14 ?_)
            refine s_op (o_neq (a := readE p2 la x65.sec) (b := 0) rfl rfl ?_)
            refine s_nil ?_
            refine t_norm (hK87 _ _ ?_)
            refine c_cond rfl (fun h88 => ?_) (fun h88 => ?_)
            · -- readE p2 la x65.sec ≠ 0
              obtain ⟨hq1, hq2, hq3, hq4, hq5⟩ := hpk x65 (List.mem_of_getElem? hx66)
              have hrd_ := read_now hp2 (la := la) (lo := lo2) (n := x65.sec) ⟨by omega, by omega⟩
              exact absurd hrd_.2 h88
            · -- not: readE p2 la x65.sec ≠ 0
              obtain ⟨hq1, hq2, hq3, hq4, hq5⟩ := hpk x65 (List.mem_of_getElem? hx66)
              have hrd_ := read_now hp2 (la := la) (lo := lo2) (n := x65.sec) ⟨by omega, by omega⟩
              have hrl_ : (readS p2 la lo2 x65.sec).length = 64 := by rw [hrd_.1]; exact nowAt_len h64 hlo2 (by omega)
              obtain ⟨hpd_, hpz_⟩ := plen_drop hpk (show (allP fr (n * 64) (at_ % (n * 64)) z)[j]? = some _ from hx66)
              refine wp_skip ?_
              refine t_norm (hK86 _ _ ?_)
              refine wp_seq_k fun K89 hK89 => ?_
              refine c_region ?_
              refine s_op (o_fieldAddr (k := 2) (fun _ => by kernel_rfl) e85_12 ?_)
              refine s_op (o_load1 (v := (.int .i64 x65.upto)) Try.underlying3 rfl rfl hH82 (seg_sub 0 rfl) (CellsAt.one rfl) ?_)
              refine s_op (o_fieldAddr (k := 1) (fun _ => by kernel_rfl) e85_12 ?_)
              refine s_op (o_load1 (v := (.int .i64 x65.frm)) Try.underlying3 rfl rfl hH82 (seg_sub 0 rfl) (CellsAt.one rfl) ?_)
              refine s_op (o_sub (a := x65.upto) (b := x65.frm) rfl rfl (w64 (by omega) (by omega)) ?_)
              refine s_op (o_assign (v := (.int .i64 (x65.upto - x65.frm))) rfl ?_)
              refine s_nil ?_
              refine t_norm (hK89 _ _ ?_)
              refine wp_seq_k fun K90 hK90 => ?_
              refine wp_seq_k fun K91 hK91 => ?_
              refine c_flow4 [[Hp.one b67 (.cells #[(.int .i64 x65.sec), (.int .i64 x65.frm), (.int .i64 x65.upto)] 145 (0, 0))], sg2, [Hp.one pb (.cells #[(.bool p2.off), (.bool p2.armed), (.int .i64 p2.left), (.int .i64 p2.uses)] 101 (0, 0))], s46, [Hp.one ab (.cells #[(.pointer (some ⟨db, 0, none⟩)), (.int .i64 fr), (.int .i64 n)] 139 (0, 0))], R] (fun i_ => match i_ with | _ => []) (fun i_ v_ h_ m_ => match i_ with | 0 => v_ = (.pointer (some ⟨ab, 0, none⟩)) ∧ h_ = [] | 1 => v_ = (.pointer (some ⟨ab, 0, none⟩)) ∧ h_ = [] | 2 => v_ = (.pointer (some ⟨ab, 0, none⟩)) ∧ h_ = [] | 3 => v_ = (.pointer (some ⟨db, 0, none⟩)) ∧ h_ = [] | 4 => v_ = (.pointer (some ⟨b67, 0, none⟩)) ∧ h_ = [] | 5 => v_ = (.int .i64 x65.sec) ∧ h_ = [] | 6 => v_ = (S (readS p2 la lo2 x65.sec)) ∧ h_ = [] | 7 => v_ = (.pointer (some ⟨b67, 1, none⟩)) ∧ h_ = [] | 8 => v_ = (.int .i64 x65.frm) ∧ h_ = [] | 9 => v_ = (S ((readS p2 la lo2 x65.sec).take (x65.frm).toNat)) ∧ h_ = [] | 10 => v_ = (S rest) ∧ h_ = [] | 11 => v_ = (.int .i64 (x65.upto - x65.frm)) ∧ h_ = [] | 12 => v_ = (S (rest.take (x65.upto - x65.frm).toNat)) ∧ h_ = [] | 13 => v_ = (S (readS p2 la lo2 x65.sec)) ∧ h_ = [] | 14 => v_ = (.pointer (some ⟨b67, 2, none⟩)) ∧ h_ = [] | 15 => v_ = (.int .i64 x65.upto) ∧ h_ = [] | 16 => v_ = (S ((readS p2 la lo2 x65.sec).drop (x65.upto).toNat)) ∧ h_ = [] | 17 => ∃ (b92 : Nat), v_ = (.slice (some ⟨b92, 0, none⟩) 3 3) ∧ h_ = [Hp.one b92 (.cells #[(S ((readS p2 la lo2 x65.sec).take (x65.frm).toNat)), (S (rest.take (x65.upto - x65.frm).toNat)), (S ((readS p2 la lo2 x65.sec).drop (x65.upto).toNat))] 9 (0, 0))] | _ => True) mixed 18 (by kernel_rfl) (by decide) (by kernel_rfl) (flow_has (cs := []) hH82 rfl) ?_ ?_
              · intro i_ o_ him_ ho_ r' w' G hs_ ht
                match i_, ho_, him_ with
                | 0, ho_, him_ =>
                  obtain rfl := Option.some.inj ho_
                  have e0 : r' 0 = (.pointer (some ⟨ab, 0, none⟩)) := (ht.was 0 (by kernel_rfl)).trans e85_0
                  have hG := ht.has.drop
                  refine GOK.free rfl ?_
                  refine o_move (v := (.pointer (some ⟨ab, 0, none⟩))) e0 ?_
                  exact ⟨_, ⟨rfl, rfl⟩, hG⟩
                | 1, ho_, him_ =>
                  obtain rfl := Option.some.inj ho_
                  obtain ⟨e69, eh0⟩ := (ht.done 0 _ rfl rfl).1
                  have hG := ht.has.drop
                  refine GOK.free rfl ?_
                  refine o_nilCheck e69 ?_
                  exact ⟨_, ⟨rfl, rfl⟩, hG⟩
                | 2, ho_, him_ =>
                  obtain rfl := Option.some.inj ho_
                  obtain ⟨e70, eh1⟩ := (ht.done 1 _ rfl rfl).1
                  have hG := ht.has.drop
                  refine GOK.free rfl ?_
                  refine o_fieldAddr (k := 0) (fun _ => by kernel_rfl) e70 ?_
                  exact ⟨_, ⟨rfl, rfl⟩, hG⟩
                | 3, ho_, him_ =>
                  obtain rfl := Option.some.inj ho_
                  obtain ⟨e71, eh2⟩ := (ht.done 2 _ rfl rfl).1
                  have hG := ht.has.drop
                  refine GOK.free rfl ?_
                  refine o_load1 (v := (.pointer (some ⟨db, 0, none⟩))) Try.underlying46 rfl e71 hG (ht.fr [Hp.one ab (.cells #[(.pointer (some ⟨db, 0, none⟩)), (.int .i64 fr), (.int .i64 n)] 139 (0, 0))] (by simp)) (CellsAt.one rfl) ?_
                  exact ⟨_, ⟨rfl, rfl⟩, hG⟩
                | 4, ho_, him_ =>
                  obtain rfl := Option.some.inj ho_
                  have e12 : r' 12 = (.pointer (some ⟨b67, 0, none⟩)) := (ht.was 12 (by kernel_rfl)).trans e85_12
                  have hG := ht.has.drop
                  refine GOK.free rfl ?_
                  refine o_fieldAddr (k := 0) (fun _ => by kernel_rfl) e12 ?_
                  exact ⟨_, ⟨rfl, rfl⟩, hG⟩
                | 5, ho_, him_ =>
                  obtain rfl := Option.some.inj ho_
                  obtain ⟨e73, eh4⟩ := (ht.done 4 _ rfl rfl).1
                  have hG := ht.has.drop
                  refine GOK.free rfl ?_
                  refine o_load1 (v := (.int .i64 x65.sec)) Try.underlying3 rfl e73 hG (ht.fr [Hp.one b67 (.cells #[(.int .i64 x65.sec), (.int .i64 x65.frm), (.int .i64 x65.upto)] 145 (0, 0))] (by simp)) (CellsAt.one rfl) ?_
                  exact ⟨_, ⟨rfl, rfl⟩, hG⟩
                | 6, ho_, him_ =>
                  obtain rfl := Option.some.inj ho_
                  have e13 : r' 13 = (S (readS p2 la lo2 x65.sec)) := (ht.was 13 (by kernel_rfl)).trans e85_13
                  have hG := ht.has.drop
                  refine GOK.free rfl ?_
                  refine o_move (v := (S (readS p2 la lo2 x65.sec))) e13 ?_
                  exact ⟨_, ⟨rfl, rfl⟩, hG⟩
                | 7, ho_, him_ =>
                  obtain rfl := Option.some.inj ho_
                  have e12 : r' 12 = (.pointer (some ⟨b67, 0, none⟩)) := (ht.was 12 (by kernel_rfl)).trans e85_12
                  have hG := ht.has.drop
                  refine GOK.free rfl ?_
                  refine o_fieldAddr (k := 1) (fun _ => by kernel_rfl) e12 ?_
                  exact ⟨_, ⟨rfl, rfl⟩, hG⟩
                | 8, ho_, him_ =>
                  obtain rfl := Option.some.inj ho_
                  obtain ⟨e76, eh7⟩ := (ht.done 7 _ rfl rfl).1
                  have hG := ht.has.drop
                  refine GOK.free rfl ?_
                  refine o_load1 (v := (.int .i64 x65.frm)) Try.underlying3 rfl e76 hG (ht.fr [Hp.one b67 (.cells #[(.int .i64 x65.sec), (.int .i64 x65.frm), (.int .i64 x65.upto)] 145 (0, 0))] (by simp)) (CellsAt.one rfl) ?_
                  exact ⟨_, ⟨rfl, rfl⟩, hG⟩
                | 9, ho_, him_ =>
                  obtain rfl := Option.some.inj ho_
                  obtain ⟨e75, eh6⟩ := (ht.done 6 _ rfl rfl).1
                  obtain ⟨e77, eh8⟩ := (ht.done 8 _ rfl rfl).1
                  have hG := ht.has.drop
                  refine GOK.free rfl ?_
                  refine o_ssl_h Try.underlying9 e75 e77 (by omega) (by omega) ?_
                  exact ⟨_, ⟨rfl, rfl⟩, hG⟩
                | 10, ho_, him_ =>
                  obtain rfl := Option.some.inj ho_
                  have e10 : r' 10 = (S rest) := (ht.was 10 (by kernel_rfl)).trans e85_10
                  have hG := ht.has.drop
                  refine GOK.free rfl ?_
                  refine o_move (v := (S rest)) e10 ?_
                  exact ⟨_, ⟨rfl, rfl⟩, hG⟩
                | 11, ho_, him_ =>
                  obtain rfl := Option.some.inj ho_
                  have e15 : r' 15 = (.int .i64 (x65.upto - x65.frm)) := ht.was 15 (by kernel_rfl)
                  have hG := ht.has.drop
                  refine GOK.free rfl ?_
                  refine o_move (v := (.int .i64 (x65.upto - x65.frm))) e15 ?_
                  exact ⟨_, ⟨rfl, rfl⟩, hG⟩
                | 12, ho_, him_ =>
                  obtain rfl := Option.some.inj ho_
                  obtain ⟨e79, eh10⟩ := (ht.done 10 _ rfl rfl).1
                  obtain ⟨e80, eh11⟩ := (ht.done 11 _ rfl rfl).1
                  have hG := ht.has.drop
                  refine GOK.free rfl ?_
                  refine o_ssl_h Try.underlying9 e79 e80 (by omega) (by omega) ?_
                  exact ⟨_, ⟨rfl, rfl⟩, hG⟩
                | 13, ho_, him_ =>
                  obtain rfl := Option.some.inj ho_
                  have e13 : r' 13 = (S (readS p2 la lo2 x65.sec)) := (ht.was 13 (by kernel_rfl)).trans e85_13
                  have hG := ht.has.drop
                  refine GOK.free rfl ?_
                  refine o_move (v := (S (readS p2 la lo2 x65.sec))) e13 ?_
                  exact ⟨_, ⟨rfl, rfl⟩, hG⟩
                | 14, ho_, him_ =>
                  obtain rfl := Option.some.inj ho_
                  have e12 : r' 12 = (.pointer (some ⟨b67, 0, none⟩)) := (ht.was 12 (by kernel_rfl)).trans e85_12
                  have hG := ht.has.drop
                  refine GOK.free rfl ?_
                  refine o_fieldAddr (k := 2) (fun _ => by kernel_rfl) e12 ?_
                  exact ⟨_, ⟨rfl, rfl⟩, hG⟩
                | 15, ho_, him_ =>
                  obtain rfl := Option.some.inj ho_
                  obtain ⟨e83, eh14⟩ := (ht.done 14 _ rfl rfl).1
                  have hG := ht.has.drop
                  refine GOK.free rfl ?_
                  refine o_load1 (v := (.int .i64 x65.upto)) Try.underlying3 rfl e83 hG (ht.fr [Hp.one b67 (.cells #[(.int .i64 x65.sec), (.int .i64 x65.frm), (.int .i64 x65.upto)] 145 (0, 0))] (by simp)) (CellsAt.one rfl) ?_
                  exact ⟨_, ⟨rfl, rfl⟩, hG⟩
                | 16, ho_, him_ =>
                  obtain rfl := Option.some.inj ho_
                  obtain ⟨e82, eh13⟩ := (ht.done 13 _ rfl rfl).1
                  obtain ⟨e84, eh15⟩ := (ht.done 15 _ rfl rfl).1
                  have hG := ht.has.drop
                  refine GOK.free rfl ?_
                  refine o_ssl_l Try.underlying9 e82 e84 (by omega) (by omega) ?_
                  exact ⟨_, ⟨rfl, rfl⟩, hG⟩
                | 17, ho_, him_ =>
                  obtain rfl := Option.some.inj ho_
                  obtain ⟨e78, eh9⟩ := (ht.done 9 _ rfl rfl).1
                  obtain ⟨e81, eh12⟩ := (ht.done 12 _ rfl rfl).1
                  obtain ⟨e85, eh16⟩ := (ht.done 16 _ rfl rfl).1
                  have hG := ht.has.drop
                  refine GOK.free rfl ?_
                  refine o_buildSlice (ps := #[(0, (S ((readS p2 la lo2 x65.sec).take (x65.frm).toNat))), (1, (S (rest.take (x65.upto - x65.frm).toNat))), (2, (S ((readS p2 la lo2 x65.sec).drop (x65.upto).toNat)))]) (cells := #[(S ((readS p2 la lo2 x65.sec).take (x65.frm).toNat)), (S (rest.take (x65.upto - x65.frm).toNat)), (S ((readS p2 la lo2 x65.sec).drop (x65.upto).toNat))]) Try.underlying53 ti9 (by decide) (parts3 e78 e81 e85) (by kernel_rfl) hG fun b92 w93 hH94 => ?_
                  exact ⟨_, ⟨b92, rfl, rfl⟩, hH94⟩
                | i_ + 18, ho_, him_ => exact absurd him_ (by omega)
              · intro vs95 hs96 w97 hT98 hC_ hH99
                obtain ⟨e0_, eh0_⟩ := hT98 0 _ (by decide) rfl
                obtain ⟨e1_, eh1_⟩ := hT98 1 _ (by decide) rfl
                obtain ⟨e2_, eh2_⟩ := hT98 2 _ (by decide) rfl
                obtain ⟨e3_, eh3_⟩ := hT98 3 _ (by decide) rfl
                obtain ⟨e4_, eh4_⟩ := hT98 4 _ (by decide) rfl
                obtain ⟨e5_, eh5_⟩ := hT98 5 _ (by decide) rfl
                obtain ⟨e6_, eh6_⟩ := hT98 6 _ (by decide) rfl
                obtain ⟨e7_, eh7_⟩ := hT98 7 _ (by decide) rfl
                obtain ⟨e8_, eh8_⟩ := hT98 8 _ (by decide) rfl
                obtain ⟨e9_, eh9_⟩ := hT98 9 _ (by decide) rfl
                obtain ⟨e10_, eh10_⟩ := hT98 10 _ (by decide) rfl
                obtain ⟨e11_, eh11_⟩ := hT98 11 _ (by decide) rfl
                obtain ⟨e12_, eh12_⟩ := hT98 12 _ (by decide) rfl
                obtain ⟨e13_, eh13_⟩ := hT98 13 _ (by decide) rfl
                obtain ⟨e14_, eh14_⟩ := hT98 14 _ (by decide) rfl
                obtain ⟨e15_, eh15_⟩ := hT98 15 _ (by decide) rfl
                obtain ⟨e16_, eh16_⟩ := hT98 16 _ (by decide) rfl
                obtain ⟨b92, e17_, eh17_⟩ := hT98 17 _ (by decide) rfl
                have hH100 : Has E w97 ([[Hp.one b67 (.cells #[(.int .i64 x65.sec), (.int .i64 x65.frm), (.int .i64 x65.upto)] 145 (0, 0))], sg2, [Hp.one pb (.cells #[(.bool p2.off), (.bool p2.armed), (.int .i64 p2.left), (.int .i64 p2.uses)] 101 (0, 0))], s46, [Hp.one ab (.cells #[(.pointer (some ⟨db, 0, none⟩)), (.int .i64 fr), (.int .i64 n)] 139 (0, 0))], R] ++ [[Hp.one b92 (.cells #[(S ((readS p2 la lo2 x65.sec).take (x65.frm).toNat)), (S (rest.take (x65.upto - x65.frm).toNat)), (S ((readS p2 la lo2 x65.sec).drop (x65.upto).toNat))] 9 (0, 0))]]) := flow_back (cs := [[Hp.one b92 (.cells #[(S ((readS p2 la lo2 x65.sec).take (x65.frm).toNat)), (S (rest.take (x65.upto - x65.frm).toNat)), (S ((readS p2 la lo2 x65.sec).drop (x65.upto).toNat))] 9 (0, 0))]]) hH99 (by show (hs96 0 ++ (hs96 1 ++ (hs96 2 ++ (hs96 3 ++ (hs96 4 ++ (hs96 5 ++ (hs96 6 ++ (hs96 7 ++ (hs96 8 ++ (hs96 9 ++ (hs96 10 ++ (hs96 11 ++ (hs96 12 ++ (hs96 13 ++ (hs96 14 ++ (hs96 15 ++ (hs96 16 ++ (hs96 17 ++ (hs96 18 ++ (hs96 19 ++ [])))))))))))))))))))) = _; rw [eh0_, eh1_, eh2_, eh3_, eh4_, eh5_, eh6_, eh7_, eh8_, eh9_, eh10_, eh11_, eh12_, eh13_, eh14_, eh15_, eh16_, eh17_, hC_ 18 (by decide) (by decide), hC_ 19 (by decide) (by decide)]; rfl)
                generalize hr102 : puts vs95 _ 0 _ = r101
                have e103_0 : r101 0 = (.pointer (some ⟨ab, 0, none⟩)) := by rw [← hr102]; exact e85_0
                have e103_1 : r101 1 = (.int .i64 at_) := by rw [← hr102]; exact e85_1
                have e103_2 : r101 2 = v := by rw [← hr102]; exact e85_2
                have e103_7 : r101 7 = (.int .i64 z) := by rw [← hr102]; exact e85_7
                have e103_10 : r101 10 = (S rest) := by rw [← hr102]; exact e85_10
                have e103_12 : r101 12 = (.pointer (some ⟨b67, 0, none⟩)) := by rw [← hr102]; exact e85_12
                have e103_13 : r101 13 = (S (readS p2 la lo2 x65.sec)) := by rw [← hr102]; exact e85_13
                have e103_14 : r101 14 = (.int .i64 (readE p2 la x65.sec)) := by rw [← hr102]; exact e85_14
                have e103_15 : r101 15 = (.int .i64 (x65.upto - x65.frm)) := by rw [← hr102]; exact rfl
                have e103_17 : r101 17 = v := by rw [← hr102]; exact e85_17
                have e103_18 : r101 18 = (.int .i64 ((data.length : Nat) : Int)) := by rw [← hr102]; exact e85_18
                have e103_19 : r101 19 = (.int .i64 (i : Int)) := by rw [← hr102]; exact e85_19
                have e103_20 : r101 20 = (.bool (decide ((i : Int) < ((data.length : Nat) : Int)))) := by rw [← hr102]; exact e85_20
                have e103_33 : r101 33 = (.bool (decide (¬ (0 ≤ at_ ∧ at_ ≤ 4611686018427387904 ∧ 0 ≤ z ∧ z ≤ n * 64)))) := by rw [← hr102]; exact e85_33
                have e103_39 : r101 39 = (.bool (!(!p.off))) := by rw [← hr102]; exact e85_39
                have e103_45 : r101 45 = v45 := by rw [← hr102]; exact e85_45
                have e103_46 : r101 46 = (.int .i64 (((allP fr (n * 64) (at_ % (n * 64)) z).length : Nat) : Int)) := by rw [← hr102]; exact e85_46
                have e103_47 : r101 47 = (.int .i64 (j : Int)) := by rw [← hr102]; exact e85_47
                have e103_48 : r101 48 = (.bool (decide ((j : Int) < (((allP fr (n * 64) (at_ % (n * 64)) z).length : Nat) : Int)))) := by rw [← hr102]; exact e85_48
                have e103_62 : r101 62 = (.bool (decide (readE p2 la x65.sec ≠ 0))) := by rw [← hr102]; exact rfl
                have e103_72 : r101 72 = (.pointer (some ⟨db, 0, none⟩)) := by rw [← hr102]; exact e3_
                have e103_74 : r101 74 = (.int .i64 x65.sec) := by rw [← hr102]; exact e5_
                have e103_86 : r101 86 = (.slice (some ⟨b92, 0, none⟩) 3 3) := by rw [← hr102]; exact e17_
                refine s_op (o_callf (vs := #[(.pointer (some ⟨db, 0, none⟩)), (.int .i64 x65.sec), (.slice (some ⟨b92, 0, none⟩) 3 3)]) ca29 rfl (args3 e103_72 e103_74 e103_86) (write_d (p := p2) (la := la) (lo := lo2) ((hH100.front 2 rfl).front 2 rfl).all2 hd2 (hp2.ok (by omega)) hla x65.sec (l := [(readS p2 la lo2 x65.sec).take (x65.frm).toNat, rest.take (x65.upto - x65.frm).toNat, (readS p2 la lo2 x65.sec).drop (x65.upto).toNat]) ((sl_lit (f := sV) (l := [(readS p2 la lo2 x65.sec).take (x65.frm).toNat, rest.take (x65.upto - x65.frm).toNat, (readS p2 la lo2 x65.sec).drop (x65.upto).toNat]) rfl rfl (by simp)).mono (seg_sub 4 rfl)) (by first | omega | simp) (by first | omega | (simp only [List.flatten_cons, List.flatten_nil, List.length_append, List.length_take, List.length_drop, List.length_nil]; omega))) ?_)
                rintro _ w108 ⟨sg104, rfl, hd105, hX106⟩
                refine ⟨_, rfl, ?_⟩
                have hH107 : Has E w108 [sg104, [Hp.one pb (.cells #[(.bool (useS p2).off), (.bool (useS p2).armed), (.int .i64 (useS p2).left), (.int .i64 (useS p2).uses)] 101 (0, 0))], [Hp.one b67 (.cells #[(.int .i64 x65.sec), (.int .i64 x65.frm), (.int .i64 x65.upto)] 145 (0, 0))], s46, [Hp.one ab (.cells #[(.pointer (some ⟨db, 0, none⟩)), (.int .i64 fr), (.int .i64 n)] 139 (0, 0))], R, [Hp.one b92 (.cells #[(S ((readS p2 la lo2 x65.sec).take (x65.frm).toNat)), (S (rest.take (x65.upto - x65.frm).toNat)), (S ((readS p2 la lo2 x65.sec).drop (x65.upto).toNat))] 9 (0, 0))]] := hX106.of_all2
                refine s_op (o_assign (v := (.int .i64 (writeE p2 la.length x65.sec [(readS p2 la lo2 x65.sec).take (x65.frm).toNat, rest.take (x65.upto - x65.frm).toNat, (readS p2 la lo2 x65.sec).drop (x65.upto).toNat].flatten))) rfl ?_)
                refine s_nil ?_
                refine t_norm (hK91 _ _ ?_)
                refine wp_seq_k fun K109 hK109 => ?_
                refine c_region ?_
                refine s_op (o_move (v := (.int .i64 (writeE p2 la.length x65.sec [(readS p2 la lo2 x65.sec).take (x65.frm).toNat, rest.take (x65.upto - x65.frm).toNat, (readS p2 la lo2 x65.sec).drop (x65.upto).toNat].flatten))) rfl ?_)
                refine s_op (o_neq (a := writeE p2 la.length x65.sec [(readS p2 la lo2 x65.sec).take (x65.frm).toNat, rest.take (x65.upto - x65.frm).toNat, (readS p2 la lo2 x65.sec).drop (x65.upto).toNat].flatten) (b := 0) rfl rfl ?_)
                refine s_nil ?_
                refine t_norm (hK109 _ _ ?_)
                refine c_cond rfl (fun h110 => ?_) (fun h110 => ?_)
                · -- writeE p2 la.length x65.sec [(readS p2 la lo2 x65.sec).take (x65.frm).toNat, rest.take (x65.upto - x65.frm).toNat, (readS p2 la lo2 x65.sec).drop (x65.upto).toNat].flatten ≠ 0
                  have hfl_ : ([(readS p2 la lo2 x65.sec).take (x65.frm).toNat, rest.take (x65.upto - x65.frm).toNat, (readS p2 la lo2 x65.sec).drop (x65.upto).toNat] : List Bs).flatten = put1 la lo2 x65 rest := by rw [hrd_.1]; simp [put1]
                  have hwr_ := write_now hp2 (m := la.length) (lo := lo2) (n := x65.sec) (s := ([(readS p2 la lo2 x65.sec).take (x65.frm).toNat, rest.take (x65.upto - x65.frm).toNat, (readS p2 la lo2 x65.sec).drop (x65.upto).toNat] : List Bs).flatten) ⟨by omega, by omega⟩ (by rw [hfl_]; exact put1_len (fr := fr) (n := n) ⟨hq1, hq2, hq3, hq4, hq5⟩ (by rw [← hrd_.1]; exact hrl_) (by omega))
                  exact absurd hwr_.2 h110
                · -- not: writeE p2 la.length x65.sec [(readS p2 la lo2 x65.sec).take (x65.frm).toNat, rest.take (x65.upto - x65.frm).toNat, (readS p2 la lo2 x65.sec).drop (x65.upto).toNat].flatten ≠ 0
                  have hfl_ : ([(readS p2 la lo2 x65.sec).take (x65.frm).toNat, rest.take (x65.upto - x65.frm).toNat, (readS p2 la lo2 x65.sec).drop (x65.upto).toNat] : List Bs).flatten = put1 la lo2 x65 rest := by rw [hrd_.1]; simp [put1]
                  have hwr_ := write_now hp2 (m := la.length) (lo := lo2) (n := x65.sec) (s := ([(readS p2 la lo2 x65.sec).take (x65.frm).toNat, rest.take (x65.upto - x65.frm).toNat, (readS p2 la lo2 x65.sec).drop (x65.upto).toNat] : List Bs).flatten) ⟨by omega, by omega⟩ (by rw [hfl_]; exact put1_len (fr := fr) (n := n) ⟨hq1, hq2, hq3, hq4, hq5⟩ (by rw [← hrd_.1]; exact hrl_) (by omega))
                  refine wp_skip ?_
                  refine t_norm (hK90 _ _ ?_)
                  refine c_region ?_
                  refine s_op (o_move (v := (S rest)) e103_10 ?_)
                  refine s_op (o_move (v := (.int .i64 (x65.upto - x65.frm))) e103_15 ?_)
                  refine s_op (o_ssl_l Try.underlying9 rfl rfl (by omega) (by omega) ?_)
                  refine s_op (o_assign (v := (S (rest.drop (x65.upto - x65.frm).toNat))) rfl ?_)
                  refine s_nil ?_
                  refine b_norm ?_
                  refine t_norm (hK60 _ _ ?_)
                  refine c_region ?_
                  refine s_op (o_add (a := (j : Int)) (b := 1) e103_47 rfl (w64 (by omega) (by omega)) ?_)
                  refine s_op (o_move (v := (.int .i64 ((j : Int) + 1))) rfl ?_)
                  refine s_nil ?_
                  have hH111 : Has E w108 [sg104, [Hp.one pb (.cells #[(.bool (useS p2).off), (.bool (useS p2).armed), (.int .i64 (useS p2).left), (.int .i64 (useS p2).uses)] 101 (0, 0))], s46, [Hp.one ab (.cells #[(.pointer (some ⟨db, 0, none⟩)), (.int .i64 fr), (.int .i64 n)] 139 (0, 0))], R] := (((((hH107.front 5 rfl).front 5 rfl).front 5 rfl).front 4 rfl).front 4 rfl).first 5 rfl
                  refine t_norm ⟨(allP fr (n * 64) (at_ % (n * 64)) z).length - (j + 1), _, rfl, ?_, ?_⟩
                  · omega
                  · exact ⟨(j + 1), (rest.drop (x65.upto - x65.frm).toNat), (writeS p2 la.length lo2 x65.sec [(readS p2 la lo2 x65.sec).take (x65.frm).toNat, rest.take (x65.upto - x65.frm).toNat, (readS p2 la lo2 x65.sec).drop (x65.upto).toNat].flatten), (useS p2), sg104, rfl, hH111, (by omega), (hd105), (hlo2.write _ _ _), (hp2.use), (by rw [List.length_drop]; omega), (by rw [hset, drop_of (show (allP fr (n * 64) (at_ % (n * 64)) z)[j]? = some _ from hx66), setP, hwr_.1, hfl_]), e103_0, e103_1, e103_2, e103_7, rfl, e103_17, e103_18, e103_19, e103_20, e103_33, e103_39, e103_45, e103_46, rfl⟩
        · -- not: (j : Int) < (((allP fr (n * 64) (at_ % (n * 64)) z).length : Nat) : Int)
          refine wp_exit ?_
          refine t_exit (t_exit (x_in (?_)))
          refine t_norm (hK43 _ _ ?_)
          refine wp_seq_k fun K112 hK112 => ?_
          refine c_region ?_
          refine s_op (o_assign (v := (.int .i64 0)) rfl ?_)
          refine s_nil ?_
          refine t_norm (hK112 _ _ ?_)
          refine wp_ret ?_
          refine c_ret1 Try.results25  (v := (.int .i64 0)) rfl ?_
          have hH113 : Has E w54 [sg2, [Hp.one pb (.cells #[(.bool p2.off), (.bool p2.armed), (.int .i64 p2.left), (.int .i64 p2.uses)] 101 (0, 0))], [Hp.one ab (.cells #[(.pointer (some ⟨db, 0, none⟩)), (.int .i64 fr), (.int .i64 n)] 139 (0, 0))], R] := ((((hH55.front 4 rfl).front 4 rfl).front 3 rfl).front 3 rfl).first 4 rfl
          have e_ : j = (allP fr (n * 64) (at_ % (n * 64)) z).length := by omega
          rw [e_, List.drop_length] at hset
          exact ⟨_, _, rfl, by rw [← hzz, hset]; exact hd2, by rw [← hzz, hset]; exact hlo2, hp2.mono (by omega), hH113⟩
set_option maxHeartbeats 4000000 in
theorem aset_no {E w : World} {R sg : List Hp} {ab db pb k : Nat} {fr n : Int} {p : Pw} {la : List Bs} {lo : List (Int × Bs)} (hH : Has E w [sg, [Hp.one pb (.cells #[(.bool p.off), (.bool p.armed), (.int .i64 p.left), (.int .i64 p.uses)] 101 (0, 0))], [Hp.one ab (.cells #[(.pointer (some ⟨db, 0, none⟩)), (.int .i64 fr), (.int .i64 n)] 139 (0, 0))], R]) (hd : DevAt pb sg db la lo) (hp : Calm p k) (hk : k ≤ 100000) (h64 : Full64 la) (hlo : LoOk lo la.length) (hfr : 0 ≤ fr) (hn : 1 ≤ n) (hfn : fr + n ≤ la.length) (hla : la.length ≤ 4096) {at_ : Int} {v : Value} {data : List Bs} (hv : Sl R 1 v data.length (data.map sV)) (hdn : data.length ≤ 1000) (hdl : data.flatten.length ≤ 1000000) (hno : ¬ (0 ≤ at_ ∧ at_ ≤ 4611686018427387904 ∧ 0 ≤ (data.flatten.length : Int) ∧ (data.flatten.length : Int) ≤ n * 64)) :
    Calls Try.prog 25 #[(.pointer (some ⟨ab, 0, none⟩)), (.int .i64 at_), v] w fun e w' => e = .returned (.int .i64 1) ∧ Has E w' [sg, [Hp.one pb (.cells #[(.bool p.off), (.bool p.armed), (.int .i64 p.left), (.int .i64 p.uses)] 101 (0, 0))], [Hp.one ab (.cells #[(.pointer (some ⟨db, 0, none⟩)), (.int .i64 fr), (.int .i64 n)] 139 (0, 0))], R] := by
  have hz0_ : (0 : Int) ≤ (data.flatten.length : Int) := by omega
  refine c_enter (args := [(.pointer (some ⟨ab, 0, none⟩)), (.int .i64 at_), v]) Try.func25 rfl Try.ntmps25 (by simp) ?_
  refine wp_seq_k fun K1 hK1 => ?_
  refine c_region ?_
  refine s_op (o_assign (v := (.int .i64 0)) rfl ?_)
  refine s_nil ?_
  refine t_norm (hK1 _ _ ?_)
  refine wp_seq_k fun K2 hK2 => ?_
  refine c_region ?_
  refine s_op (o_assign (v := (.int .i64 0)) rfl ?_)
  refine s_nil ?_
  refine t_norm (hK2 _ _ ?_)
  refine wp_seq_k fun K3 hK3 => ?_
  refine wp_seq_k fun K4 hK4 => ?_
  refine c_region ?_
  refine s_op (o_move (v := v) rfl ?_)
  refine s_op (o_lenS Try.underlying53 rfl hv ?_)
  refine s_op (o_move (v := (.int .i64 0)) rfl ?_)
  refine s_nil ?_
  refine t_norm (hK4 _ _ ?_)
  refine wp_block ?_
  let I6 : Nat → (Nat → Value) → World → Prop := fun n__ r__ w__ => ∃ (i : Nat) (z : Int), n__ = data.length - i ∧ Has E w__ [sg, [Hp.one pb (.cells #[(.bool p.off), (.bool p.armed), (.int .i64 p.left), (.int .i64 p.uses)] 101 (0, 0))], [Hp.one ab (.cells #[(.pointer (some ⟨db, 0, none⟩)), (.int .i64 fr), (.int .i64 n)] 139 (0, 0))], R] ∧ (i ≤ data.length) ∧ (z = ((data.take i).flatten.length : Int)) ∧ r__ 0 = (.pointer (some ⟨ab, 0, none⟩)) ∧ r__ 1 = (.int .i64 at_) ∧ r__ 2 = v ∧ r__ 6 = (.int .i64 0) ∧ r__ 7 = (.int .i64 z) ∧ r__ 17 = v ∧ r__ 18 = (.int .i64 ((data.length : Nat) : Int)) ∧ r__ 19 = (.int .i64 (i : Int))
  refine c_loop I6 _ ⟨0, 0, rfl, hH, Nat.zero_le _, (by simp), rfl, rfl, rfl, rfl, rfl, rfl, rfl, rfl⟩ ?_
  rintro n_ r9 w7 ⟨i, z, rfl, hH8, hi, hz, e5_0, e5_1, e5_2, e5_6, e5_7, e5_17, e5_18, e5_19⟩
  have hzl := flat_take_le data i
  refine wp_seq_k fun K10 hK10 => ?_
  refine c_region ?_
  refine s_op (o_lss (a := (i : Int)) (b := ((data.length : Nat) : Int)) e5_19 e5_18 ?_)
  refine s_nil ?_
  refine t_norm (hK10 _ _ ?_)
  refine wp_seq_k fun K11 hK11 => ?_
  refine c_cond rfl (fun h12 => ?_) (fun h12 => ?_)
  · -- (i : Int) < ((data.length : Nat) : Int)
    refine wp_skip ?_
    refine t_norm (hK11 _ _ ?_)
    refine wp_seq_k fun K13 hK13 => ?_
    refine wp_block ?_
    refine wp_seq_k fun K14 hK14 => ?_
    refine c_region ?_
    obtain ⟨x18, hx19⟩ : ∃ x_, data[((i : Int)).toNat]? = some x_ := get_some (by omega)
    refine s_op (o_index1 Try.underlying53 ti9 e5_17 hv e5_19 (by omega) hx19 fun b15 o16 hc17 => ?_)
    refine s_op (o_load1 (v := (S x18)) Try.underlying9 rfl rfl hH8 (seg_sub 3 rfl) hc17 ?_)
    refine s_op (o_assign (v := (S x18)) rfl ?_)
    refine s_nil ?_
    refine t_norm (hK14 _ _ ?_)
    refine c_region ?_
    refine s_op (o_move (v := (.int .i64 z)) e5_7 ?_)
    refine s_op (o_move (v := (S x18)) rfl ?_)
    refine s_op (o_slen Try.underlying9 rfl ?_)
    refine s_op (o_buildSlice (ps := #[(0, (.int .i64 z)), (1, (.int .i64 (x18.length : Int)))]) (cells := #[(.int .i64 z), (.int .i64 (x18.length : Int))]) Try.underlying54 ti3 (by decide) (parts2 rfl rfl) (by kernel_rfl) hH8 fun b20 w21 hH22 => ?_)
    have hxl_ := flat_take_le data (i + 1)
    rw [flatten_take_succ (show data[i]? = some _ from hx19), List.length_append] at hxl_
    refine s_op (o_callf (vs := #[(.slice (some ⟨b20, 0, none⟩) 2 2)]) ca77 rfl (args1 rfl) ((by have h_ := sum_c hH22.all (l := [z, (x18.length : Int)]) ((sl_lit (f := iV) (l := [z, (x18.length : Int)]) rfl rfl (by simp)).mono (seg_sub 0 rfl)); rwa [sum2 ⟨by omega, by omega⟩ ⟨by omega, by omega⟩] at h_)) ?_)
    rintro _ w25 ⟨rfl, hX23⟩
    refine ⟨_, rfl, ?_⟩
    have hH24 := hX23.of_all
    refine s_op (o_assign (v := (.int .i64 (z + (x18.length : Int)))) rfl ?_)
    refine s_nil ?_
    refine b_norm ?_
    refine t_norm (hK13 _ _ ?_)
    refine c_region ?_
    refine s_op (o_add (a := (i : Int)) (b := 1) e5_19 rfl (w64 (by omega) (by omega)) ?_)
    refine s_op (o_move (v := (.int .i64 ((i : Int) + 1))) rfl ?_)
    refine s_nil ?_
    have hH26 : Has E w25 [sg, [Hp.one pb (.cells #[(.bool p.off), (.bool p.armed), (.int .i64 p.left), (.int .i64 p.uses)] 101 (0, 0))], [Hp.one ab (.cells #[(.pointer (some ⟨db, 0, none⟩)), (.int .i64 fr), (.int .i64 n)] 139 (0, 0))], R] := ((((hH24.front 4 rfl).front 4 rfl).front 4 rfl).front 4 rfl).first 4 rfl
    refine t_norm ⟨data.length - (i + 1), _, rfl, ?_, ?_⟩
    · omega
    · exact ⟨(i + 1), (z + (x18.length : Int)), rfl, hH26, (by omega), (by rw [flatten_take_succ (show data[i]? = some _ from hx19), List.length_append]; omega), e5_0, e5_1, e5_2, e5_6, rfl, e5_17, e5_18, rfl⟩
  · -- not: (i : Int) < ((data.length : Nat) : Int)
    refine wp_exit ?_
    refine t_exit (t_exit (x_in (?_)))
    refine t_norm (hK3 _ _ ?_)
    refine wp_seq_k fun K27 hK27 => ?_
    refine wp_seq_k fun K28 hK28 => ?_
    refine c_region ?_
    refine s_op (o_move (v := (.pointer (some ⟨ab, 0, none⟩))) e5_0 ?_)
    refine s_op (o_move (v := (.int .i64 at_)) e5_1 ?_)
    refine s_op (o_move (v := (.int .i64 z)) e5_7 ?_)
    refine s_op (o_callf (vs := #[(.pointer (some ⟨ab, 0, none⟩)), (.int .i64 at_), (.int .i64 z)]) ca78 rfl (args3 rfl rfl rfl) (amay_c (hH8.front 2 rfl).all1 ⟨by omega, by omega⟩ at_ z) ?_)
    rintro _ w31 ⟨rfl, hX29⟩
    refine ⟨_, rfl, ?_⟩
    have hH30 : Has E w31 [[Hp.one ab (.cells #[(.pointer (some ⟨db, 0, none⟩)), (.int .i64 fr), (.int .i64 n)] 139 (0, 0))], sg, [Hp.one pb (.cells #[(.bool p.off), (.bool p.armed), (.int .i64 p.left), (.int .i64 p.uses)] 101 (0, 0))], R] := hX29.of_all1
    refine s_op (o_not2 (b := decide (0 ≤ at_ ∧ at_ ≤ 4611686018427387904 ∧ 0 ≤ z ∧ z ≤ n * 64)) (b' := decide (¬ (0 ≤ at_ ∧ at_ ≤ 4611686018427387904 ∧ 0 ≤ z ∧ z ≤ n * 64))) rfl not_dec ?_)
    refine s_nil ?_
    refine t_norm (hK28 _ _ ?_)
    refine c_cond rfl (fun h32 => ?_) (fun h32 => ?_)
    · -- ¬ (0 ≤ at_ ∧ at_ ≤ 4611686018427387904 ∧ 0 ≤ z ∧ z ≤ n * 64)
      have hzz : z = (data.flatten.length : Int) := by rw [hz, show i = data.length by omega, List.take_of_length_le (Nat.le_refl _)]
      refine wp_seq_k fun K33 hK33 => ?_
      refine c_region ?_
      refine s_op (o_assign (v := (.int .i64 1)) rfl ?_)
      refine s_nil ?_
      refine t_norm (hK33 _ _ ?_)
      refine wp_ret ?_
      refine t_ret (c_ret1 Try.results25  (v := (.int .i64 1)) rfl ?_)
      have hH34 : Has E w31 [sg, [Hp.one pb (.cells #[(.bool p.off), (.bool p.armed), (.int .i64 p.left), (.int .i64 p.uses)] 101 (0, 0))], [Hp.one ab (.cells #[(.pointer (some ⟨db, 0, none⟩)), (.int .i64 fr), (.int .i64 n)] 139 (0, 0))], R] := ((((hH30.front 3 rfl).front 1 rfl).front 3 rfl).front 3 rfl).first 4 rfl
      exact ⟨rfl, hH34⟩
    · -- not: ¬ (0 ≤ at_ ∧ at_ ≤ 4611686018427387904 ∧ 0 ≤ z ∧ z ≤ n * 64)
      have hzz : z = (data.flatten.length : Int) := by rw [hz, show i = data.length by omega, List.take_of_length_le (Nat.le_refl _)]
      exact absurd (show _ ∧ _ ∧ _ ∧ _ from (have g := Classical.not_not.1 h32; ⟨by omega, by omega, by omega, by omega⟩)) hno
end Go.Q
