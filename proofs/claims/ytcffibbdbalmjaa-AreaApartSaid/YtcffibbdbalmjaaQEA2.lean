/-
  Parts of a walk: what functions of the program compute, each told by a theorem.
-/
import Derived.Test.YtcffibbdbalmjaaQEA1
set_option linter.unusedVariables false
set_option linter.unusedSimpArgs false
namespace Go.Q
open Go.Proofs
set_option linter.unusedVariables false
set_option maxRecDepth 100000
attribute [local irreducible] wpList OK Code.wp
set_option maxHeartbeats 4000000 in
theorem aget_c {E w : World} {R sg : List Hp} {ab db pb k : Nat} {fr n : Int} {p : Pw} {la : List Bs} {lo : List (Int × Bs)} (hH : Has E w [sg, [Hp.one pb (.cells #[(.bool p.off), (.bool p.armed), (.int .i64 p.left), (.int .i64 p.uses)] 101 (0, 0))], [Hp.one ab (.cells #[(.pointer (some ⟨db, 0, none⟩)), (.int .i64 fr), (.int .i64 n)] 139 (0, 0))], R]) (hd : DevAt pb sg db la lo) (hp : Calm p k) (hk : k ≤ 100000) (h64 : Full64 la) (hlo : LoOk lo la.length) (hfr : 0 ≤ fr) (hn : 1 ≤ n) (hfn : fr + n ≤ la.length) (hla : la.length ≤ 4096) {at_ : Int} (hat : 0 ≤ at_ ∧ at_ ≤ 4611686018427387904) {size : Int} (hsz : 0 ≤ size ∧ size ≤ n * 64) :
    Calls Try.prog 26 #[(.pointer (some ⟨ab, 0, none⟩)), (.int .i64 at_), (.int .i64 size)] w fun e w' => e = .returned (.tuple #[S (getP la lo (allP fr (n * 64) (at_ % (n * 64)) size)), .int .i64 0]) ∧ Has E w' [sg, [Hp.one pb (.cells #[(.bool p.off), (.bool p.armed), (.int .i64 p.left), (.int .i64 p.uses)] 101 (0, 0))], [Hp.one ab (.cells #[(.pointer (some ⟨db, 0, none⟩)), (.int .i64 fr), (.int .i64 n)] 139 (0, 0))], R] := by
  obtain ⟨hat1, hat2⟩ := hat
  obtain ⟨hsz1, hsz2⟩ := hsz
  refine c_enter (args := [(.pointer (some ⟨ab, 0, none⟩)), (.int .i64 at_), (.int .i64 size)]) Try.func26 rfl Try.ntmps26 (by simp) ?_
  refine wp_seq_k fun K1 hK1 => ?_
  refine c_region ?_
  refine s_op (o_assign (v := (S ([] : List UInt8))) rfl ?_)
  refine s_op (o_assign (v := (.int .i64 0)) rfl ?_)
  refine s_nil ?_
  refine t_norm (hK1 _ _ ?_)
  refine wp_seq_k fun K2 hK2 => ?_
  refine wp_seq_k fun K3 hK3 => ?_
  refine c_region ?_
  refine s_op (o_move (v := (.pointer (some ⟨ab, 0, none⟩))) rfl ?_)
  refine s_op (o_move (v := (.int .i64 at_)) rfl ?_)
  refine s_op (o_move (v := (.int .i64 size)) rfl ?_)
  refine s_op (o_callf (vs := #[(.pointer (some ⟨ab, 0, none⟩)), (.int .i64 at_), (.int .i64 size)]) ca78 rfl (args3 rfl rfl rfl) (amay_c (hH.front 2 rfl).all1 ⟨by omega, by omega⟩ at_ size) ?_)
  rintro _ w6 ⟨rfl, hX4⟩
  refine ⟨_, rfl, ?_⟩
  have hH5 : Has E w6 [[Hp.one ab (.cells #[(.pointer (some ⟨db, 0, none⟩)), (.int .i64 fr), (.int .i64 n)] 139 (0, 0))], sg, [Hp.one pb (.cells #[(.bool p.off), (.bool p.armed), (.int .i64 p.left), (.int .i64 p.uses)] 101 (0, 0))], R] := hX4.of_all1
  refine s_op (o_not2 (b := decide (0 ≤ at_ ∧ at_ ≤ 4611686018427387904 ∧ 0 ≤ size ∧ size ≤ n * 64)) (b' := decide (¬ (0 ≤ at_ ∧ at_ ≤ 4611686018427387904 ∧ 0 ≤ size ∧ size ≤ n * 64))) rfl not_dec ?_)
  refine s_nil ?_
  refine t_norm (hK3 _ _ ?_)
  refine c_cond rfl (fun h7 => ?_) (fun h7 => ?_)
  · -- ¬ (0 ≤ at_ ∧ at_ ≤ 4611686018427387904 ∧ 0 ≤ size ∧ size ≤ n * 64)
    exact absurd (show _ ∧ _ ∧ _ ∧ _ from ⟨by omega, by omega, by omega, by omega⟩) h7
  · -- not: ¬ (0 ≤ at_ ∧ at_ ≤ 4611686018427387904 ∧ 0 ≤ size ∧ size ≤ n * 64)
    refine wp_skip ?_
    refine t_norm (hK2 _ _ ?_)
    refine wp_seq_k fun K8 hK8 => ?_
    refine wp_seq_k fun K9 hK9 => ?_
    refine c_region ?_
    refine s_op (o_move (v := (.pointer (some ⟨ab, 0, none⟩))) rfl ?_)
    refine s_op (o_nilCheck rfl ?_)
    refine s_op (o_fieldAddr (k := 0) (fun _ => by kernel_rfl) rfl ?_)
    refine s_op (o_load1 (v := (.pointer (some ⟨db, 0, none⟩))) Try.underlying46 rfl rfl hH5 (seg_sub 0 rfl) (CellsAt.one rfl) ?_)
    refine s_op (o_callf (vs := #[(.pointer (some ⟨db, 0, none⟩))]) ca62 rfl (args1 rfl) (don_d (p := p) (la := la) (lo := lo) ((hH5.front 2 rfl).front 2 rfl).all2 hd ) ?_)
    rintro _ w12 ⟨rfl, hX10⟩
    refine ⟨_, rfl, ?_⟩
    have hH11 : Has E w12 [sg, [Hp.one pb (.cells #[(.bool p.off), (.bool p.armed), (.int .i64 p.left), (.int .i64 p.uses)] 101 (0, 0))], [Hp.one ab (.cells #[(.pointer (some ⟨db, 0, none⟩)), (.int .i64 fr), (.int .i64 n)] 139 (0, 0))], R] := hX10.of_all2
    refine s_op (o_not rfl ?_)
    refine s_nil ?_
    refine t_norm (hK9 _ _ ?_)
    refine c_condb rfl (fun h13 => ?_) (fun h13 => ?_)
    · -- !(!p.off)
      have h13_n : (!p.off) = false := by simpa using h13
      have h13_n_n : p.off = true := by simpa using h13_n
      exact absurd h13 (by rw [hp.off]; decide)
    · -- not: !(!p.off)
      have h13_n : (!p.off) = true := by simpa using h13
      have h13_n_n : p.off = false := by simpa using h13_n
      refine wp_skip ?_
      refine t_norm (hK8 _ _ ?_)
      refine wp_seq_k fun K14 hK14 => ?_
      refine c_region ?_
      refine s_op (o_alloc (cs := #[(.pointer none), (.slice none 0 0)]) ti149 rfl hH11 fun b15 w16 hH17 => ?_)
      refine s_nil ?_
      refine t_norm (hK14 _ _ ?_)
      refine wp_seq_k fun K18 hK18 => ?_
      refine wp_seq_k fun K19 hK19 => ?_
      refine c_region ?_
      refine s_op (o_move (v := (.pointer (some ⟨ab, 0, none⟩))) rfl ?_)
      refine s_op (o_move (v := (.int .i64 at_)) rfl ?_)
      refine s_op (o_move (v := (.int .i64 size)) rfl ?_)
      refine s_op (o_callf (vs := #[(.pointer (some ⟨ab, 0, none⟩)), (.int .i64 at_), (.int .i64 size)]) ca80 rfl (args3 rfl rfl rfl) (pieces_c (hH17.front 3 rfl).all1 ⟨by omega, by omega⟩ ⟨by omega, by omega⟩ (at_ := at_) (size := size) ⟨by omega, by omega⟩ ⟨by omega, by omega⟩) ?_)
      rintro _ w25 ⟨v20, s21, rfl, ho22, hX23⟩
      refine ⟨_, rfl, ?_⟩
      have hH24 : Has E w25 [s21, [Hp.one ab (.cells #[(.pointer (some ⟨db, 0, none⟩)), (.int .i64 fr), (.int .i64 n)] 139 (0, 0))], [Hp.one b15 (.cells #[(.pointer none), (.slice none 0 0)] 149 (0, 0))], sg, [Hp.one pb (.cells #[(.bool p.off), (.bool p.armed), (.int .i64 p.left), (.int .i64 p.uses)] 101 (0, 0))], R] := hX23.of_all2
      refine s_op (o_lenS Try.underlying142 rfl ho22.sl ?_)
      refine s_op (o_move (v := (.int .i64 0)) rfl ?_)
      refine s_nil ?_
      refine t_norm (hK19 _ _ ?_)
      refine wp_block ?_
      have hpl := pieces_count (fr := fr) (L := n * 64) size.toNat (at_ % (n * 64)) size
      have hpk := pieces_ok (fr := fr) (n := n) (by omega) size.toNat (at_ % (n * 64)) size (Int.emod_nonneg _ (by omega)) (Int.emod_lt_of_pos _ (by omega))
      have hpe : (allP fr (n * 64) (at_ % (n * 64)) size).length ≤ size.toNat := hpl
      let I27 : Nat → (Nat → Value) → World → Prop := fun n__ r__ w__ => ∃ (j : Nat) (sgB : List Hp) (acc : Bs), n__ = (allP fr (n * 64) (at_ % (n * 64)) size).length - j ∧ Has E w__ [sgB, s21, [Hp.one ab (.cells #[(.pointer (some ⟨db, 0, none⟩)), (.int .i64 fr), (.int .i64 n)] 139 (0, 0))], sg, [Hp.one pb (.cells #[(.bool p.off), (.bool p.armed), (.int .i64 p.left), (.int .i64 p.uses)] 101 (0, 0))], R] ∧ (j ≤ (allP fr (n * 64) (at_ % (n * 64)) size).length) ∧ (Bld b15 acc sgB) ∧ (acc.length ≤ j * 64) ∧ (acc = getP la lo ((allP fr (n * 64) (at_ % (n * 64)) size).take j)) ∧ r__ 0 = (.pointer (some ⟨ab, 0, none⟩)) ∧ r__ 1 = (.int .i64 at_) ∧ r__ 2 = (.int .i64 size) ∧ r__ 8 = (.pointer (some ⟨b15, 0, none⟩)) ∧ r__ 17 = (.bool (decide (¬ (0 ≤ at_ ∧ at_ ≤ 4611686018427387904 ∧ 0 ≤ size ∧ size ≤ n * 64)))) ∧ r__ 23 = (.bool (!(!p.off))) ∧ r__ 27 = v20 ∧ r__ 28 = (.int .i64 (((allP fr (n * 64) (at_ % (n * 64)) size).length : Nat) : Int)) ∧ r__ 29 = (.int .i64 (j : Int))
      have hH28 : Has E w25 [[Hp.one b15 (.cells #[(.pointer none), (.slice none 0 0)] 149 (0, 0))], s21, [Hp.one ab (.cells #[(.pointer (some ⟨db, 0, none⟩)), (.int .i64 fr), (.int .i64 n)] 139 (0, 0))], sg, [Hp.one pb (.cells #[(.bool p.off), (.bool p.armed), (.int .i64 p.left), (.int .i64 p.uses)] 101 (0, 0))], R] := Has.pick hH24 [2, 0, 0, 0, 0, 0] (by kernel_rfl)
      refine c_loop I27 _ ⟨0, [Hp.one b15 (.cells #[(.pointer none), (.slice none 0 0)] 149 (0, 0))], ([] : Bs), rfl, hH28, Nat.zero_le _, Bld.new _, (by simp), (by rfl), rfl, rfl, rfl, rfl, rfl, rfl, rfl, rfl, rfl⟩ ?_
      rintro n_ r31 w29 ⟨j, sgB, acc, rfl, hH30, hj, hB, hal, hacc, e26_0, e26_1, e26_2, e26_8, e26_17, e26_23, e26_27, e26_28, e26_29⟩
      refine wp_seq_k fun K32 hK32 => ?_
      refine c_region ?_
      refine s_op (o_lss (a := (j : Int)) (b := (((allP fr (n * 64) (at_ % (n * 64)) size).length : Nat) : Int)) e26_29 e26_28 ?_)
      refine s_nil ?_
      refine t_norm (hK32 _ _ ?_)
      refine wp_seq_k fun K33 hK33 => ?_
      refine c_cond rfl (fun h34 => ?_) (fun h34 => ?_)
      · -- (j : Int) < (((allP fr (n * 64) (at_ % (n * 64)) size).length : Nat) : Int)
        refine wp_skip ?_
        refine t_norm (hK33 _ _ ?_)
        refine wp_seq_k fun K35 hK35 => ?_
        refine wp_block ?_
        refine wp_seq_k fun K36 hK36 => ?_
        refine c_region ?_
        obtain ⟨x40, hx41⟩ : ∃ x_, (allP fr (n * 64) (at_ % (n * 64)) size)[((j : Int)).toNat]? = some x_ := get_some (by omega)
        refine s_op (o_indexF pcC_len Try.underlying142 ti145 e26_27 ho22.sl rfl e26_29 (by omega) hx41 fun b37 o38 hc39 => ?_)
        refine s_op (o_loadN (cs := [(.int .i64 x40.sec), (.int .i64 x40.frm), (.int .i64 x40.upto)]) Try.underlying145 rfl ti145 rfl hH30 (seg_sub 1 rfl) hc39 ?_)
        refine s_op (o_alloc (cs := #[(.int .i64 0), (.int .i64 0), (.int .i64 0)]) ti145 rfl hH30 fun b42 w43 hH44 => ?_)
        refine s_eff (o_storeN (vs := [(.int .i64 x40.sec), (.int .i64 x40.frm), (.int .i64 x40.upto)]) (c' := #[(.int .i64 x40.sec), (.int .i64 x40.frm), (.int .i64 x40.upto)]) ti145 rfl rfl rfl rfl (by intro u hu; simp only [List.mem_cons, List.not_mem_nil, or_false] at hu; rcases hu with rfl | rfl | rfl <;> first | rfl) (by simp) (by kernel_rfl) (hH44.front 0 rfl) fun w45 hH46 => ?_)
        refine s_nil ?_
        refine t_norm (hK36 _ _ ?_)
        refine wp_seq_k fun K47 hK47 => ?_
        have hnd48 : (sg ++ [Hp.one pb (.cells #[(.bool p.off), (.bool p.armed), (.int .i64 p.left), (.int .i64 p.uses)] 101 (0, 0))]).Nodup := dev_nodup hd ((hH46.front 5 rfl).front 5 rfl)
        refine c_flow [[Hp.one b42 (.cells #[(.int .i64 x40.sec), (.int .i64 x40.frm), (.int .i64 x40.upto)] 145 (0, 0))], sgB, s21, [Hp.one ab (.cells #[(.pointer (some ⟨db, 0, none⟩)), (.int .i64 fr), (.int .i64 n)] 139 (0, 0))], sg, [Hp.one pb (.cells #[(.bool p.off), (.bool p.armed), (.int .i64 p.left), (.int .i64 p.uses)] 101 (0, 0))], R] (fun i_ => match i_ with | _ => []) (fun i_ v_ h_ => match i_ with | 0 => v_ = (.pointer (some ⟨ab, 0, none⟩)) ∧ h_ = [] | 1 => v_ = (.pointer (some ⟨ab, 0, none⟩)) ∧ h_ = [] | 2 => v_ = (.pointer (some ⟨ab, 0, none⟩)) ∧ h_ = [] | 3 => v_ = (.pointer (some ⟨db, 0, none⟩)) ∧ h_ = [] | 4 => v_ = (.pointer (some ⟨b42, 0, none⟩)) ∧ h_ = [] | 5 => v_ = (.int .i64 x40.sec) ∧ h_ = [] | 6 => v_ = (.tuple #[(S (readS p la lo x40.sec)), (.int .i64 (readE p la x40.sec))]) ∧ h_ = [] | 7 => v_ = (.tuple #[(S (readS p la lo x40.sec)), (.int .i64 (readE p la x40.sec))]) ∧ h_ = [] | 8 => v_ = (S (readS p la lo x40.sec)) ∧ h_ = [] | 9 => v_ = (.int .i64 (readE p la x40.sec)) ∧ h_ = [] | 10 => v_ = (S (readS p la lo x40.sec)) ∧ h_ = [] | 11 => v_ = (.int .i64 (readE p la x40.sec)) ∧ h_ = [] | _ => True) mixed (by kernel_rfl) (flow_has (cs := []) hH46 rfl) ?_ ?_
        · intro i_ o_ ho_ r' w' G hs_ ht
          match i_, ho_ with
          | 0, ho_ =>
            obtain rfl := Option.some.inj ho_
            have e0 : r' 0 = (.pointer (some ⟨ab, 0, none⟩)) := (ht.was 0 (by kernel_rfl)).trans e26_0
            have hG := ht.has.drop
            refine o_move (v := (.pointer (some ⟨ab, 0, none⟩))) e0 ?_
            exact ⟨_, ⟨rfl, rfl⟩, hG⟩
          | 1, ho_ =>
            obtain rfl := Option.some.inj ho_
            obtain ⟨e34, eh0⟩ := (ht.done 0 _ rfl rfl).1
            have hG := ht.has.drop
            refine o_nilCheck e34 ?_
            exact ⟨_, ⟨rfl, rfl⟩, hG⟩
          | 2, ho_ =>
            obtain rfl := Option.some.inj ho_
            obtain ⟨e35, eh1⟩ := (ht.done 1 _ rfl rfl).1
            have hG := ht.has.drop
            refine o_fieldAddr (k := 0) (fun _ => by kernel_rfl) e35 ?_
            exact ⟨_, ⟨rfl, rfl⟩, hG⟩
          | 3, ho_ =>
            obtain rfl := Option.some.inj ho_
            obtain ⟨e36, eh2⟩ := (ht.done 2 _ rfl rfl).1
            have hG := ht.has.drop
            refine o_load1 (v := (.pointer (some ⟨db, 0, none⟩))) Try.underlying46 rfl e36 hG (ht.fr [Hp.one ab (.cells #[(.pointer (some ⟨db, 0, none⟩)), (.int .i64 fr), (.int .i64 n)] 139 (0, 0))] (by simp)) (CellsAt.one rfl) ?_
            exact ⟨_, ⟨rfl, rfl⟩, hG⟩
          | 4, ho_ =>
            obtain rfl := Option.some.inj ho_
            have e10 : r' 10 = (.pointer (some ⟨b42, 0, none⟩)) := ht.was 10 (by kernel_rfl)
            have hG := ht.has.drop
            refine o_fieldAddr (k := 0) (fun _ => by kernel_rfl) e10 ?_
            exact ⟨_, ⟨rfl, rfl⟩, hG⟩
          | 5, ho_ =>
            obtain rfl := Option.some.inj ho_
            obtain ⟨e38, eh4⟩ := (ht.done 4 _ rfl rfl).1
            have hG := ht.has.drop
            refine o_load1 (v := (.int .i64 x40.sec)) Try.underlying3 rfl e38 hG (ht.fr [Hp.one b42 (.cells #[(.int .i64 x40.sec), (.int .i64 x40.frm), (.int .i64 x40.upto)] 145 (0, 0))] (by simp)) (CellsAt.one rfl) ?_
            exact ⟨_, ⟨rfl, rfl⟩, hG⟩
          | 6, ho_ =>
            obtain rfl := Option.some.inj ho_
            obtain ⟨e37, eh3⟩ := (ht.done 3 _ rfl rfl).1
            obtain ⟨e39, eh5⟩ := (ht.done 5 _ rfl rfl).1
            have hG := ht.has.drop
            refine o_callf (vs := #[(.pointer (some ⟨db, 0, none⟩)), (.int .i64 x40.sec)]) ca33 rfl (args2 e37 e39) (read_r (p := p) (la := la) (lo := lo) hG.all hd hnd48 (in_sub (ht.fr sg (by simp)) (ht.fr [Hp.one pb (.cells #[(.bool p.off), (.bool p.armed), (.int .i64 p.left), (.int .i64 p.uses)] 101 (0, 0))] (by simp))) x40.sec) ?_
            rintro _ w51 ⟨rfl, hX49⟩
            refine ⟨_, rfl, ?_⟩
            have hH50 := hX49.of_all
            exact ⟨_, ⟨rfl, rfl⟩, hH50⟩
          | 7, ho_ =>
            obtain rfl := Option.some.inj ho_
            obtain ⟨e40, eh6⟩ := (ht.done 6 _ rfl rfl).1
            have hG := ht.has.drop
            refine o_move (v := (.tuple #[(S (readS p la lo x40.sec)), (.int .i64 (readE p la x40.sec))])) e40 ?_
            exact ⟨_, ⟨rfl, rfl⟩, hG⟩
          | 8, ho_ =>
            obtain rfl := Option.some.inj ho_
            obtain ⟨e33, eh7⟩ := (ht.done 7 _ rfl rfl).1
            have hG := ht.has.drop
            refine o_extract (v := (S (readS p la lo x40.sec))) e33 rfl ?_
            exact ⟨_, ⟨rfl, rfl⟩, hG⟩
          | 9, ho_ =>
            obtain rfl := Option.some.inj ho_
            obtain ⟨e33, eh7⟩ := (ht.done 7 _ rfl rfl).1
            have hG := ht.has.drop
            refine o_extract (v := (.int .i64 (readE p la x40.sec))) e33 rfl ?_
            exact ⟨_, ⟨rfl, rfl⟩, hG⟩
          | 10, ho_ =>
            obtain rfl := Option.some.inj ho_
            obtain ⟨e41, eh8⟩ := (ht.done 8 _ rfl rfl).1
            have hG := ht.has.drop
            refine o_assign (v := (S (readS p la lo x40.sec))) e41 ?_
            exact ⟨_, ⟨rfl, rfl⟩, hG⟩
          | 11, ho_ =>
            obtain rfl := Option.some.inj ho_
            obtain ⟨e42, eh9⟩ := (ht.done 9 _ rfl rfl).1
            have hG := ht.has.drop
            refine o_assign (v := (.int .i64 (readE p la x40.sec))) e42 ?_
            exact ⟨_, ⟨rfl, rfl⟩, hG⟩
          | i_ + 12, ho_ => exact absurd ho_ (by simp)
        · intro vs52 hs53 w54 hT55 hH56
          obtain ⟨e0_, eh0_⟩ := hT55 0 _ rfl
          obtain ⟨e1_, eh1_⟩ := hT55 1 _ rfl
          obtain ⟨e2_, eh2_⟩ := hT55 2 _ rfl
          obtain ⟨e3_, eh3_⟩ := hT55 3 _ rfl
          obtain ⟨e4_, eh4_⟩ := hT55 4 _ rfl
          obtain ⟨e5_, eh5_⟩ := hT55 5 _ rfl
          obtain ⟨e6_, eh6_⟩ := hT55 6 _ rfl
          obtain ⟨e7_, eh7_⟩ := hT55 7 _ rfl
          obtain ⟨e8_, eh8_⟩ := hT55 8 _ rfl
          obtain ⟨e9_, eh9_⟩ := hT55 9 _ rfl
          obtain ⟨e10_, eh10_⟩ := hT55 10 _ rfl
          obtain ⟨e11_, eh11_⟩ := hT55 11 _ rfl
          have hH57 : Has E w54 ([[Hp.one b42 (.cells #[(.int .i64 x40.sec), (.int .i64 x40.frm), (.int .i64 x40.upto)] 145 (0, 0))], sgB, s21, [Hp.one ab (.cells #[(.pointer (some ⟨db, 0, none⟩)), (.int .i64 fr), (.int .i64 n)] 139 (0, 0))], sg, [Hp.one pb (.cells #[(.bool p.off), (.bool p.armed), (.int .i64 p.left), (.int .i64 p.uses)] 101 (0, 0))], R] ++ []) := flow_back (cs := []) hH56 (by show (hs53 0 ++ (hs53 1 ++ (hs53 2 ++ (hs53 3 ++ (hs53 4 ++ (hs53 5 ++ (hs53 6 ++ (hs53 7 ++ (hs53 8 ++ (hs53 9 ++ (hs53 10 ++ (hs53 11 ++ [])))))))))))) = _; rw [eh0_, eh1_, eh2_, eh3_, eh4_, eh5_, eh6_, eh7_, eh8_, eh9_, eh10_, eh11_]; rfl)
          generalize hr59 : puts vs52 _ 0 _ = r58
          have e60_0 : r58 0 = (.pointer (some ⟨ab, 0, none⟩)) := by rw [← hr59]; exact e26_0
          have e60_1 : r58 1 = (.int .i64 at_) := by rw [← hr59]; exact e26_1
          have e60_2 : r58 2 = (.int .i64 size) := by rw [← hr59]; exact e26_2
          have e60_8 : r58 8 = (.pointer (some ⟨b15, 0, none⟩)) := by rw [← hr59]; exact e26_8
          have e60_10 : r58 10 = (.pointer (some ⟨b42, 0, none⟩)) := by rw [← hr59]; exact rfl
          have e60_11 : r58 11 = (S (readS p la lo x40.sec)) := by rw [← hr59]; exact e10_
          have e60_12 : r58 12 = (.int .i64 (readE p la x40.sec)) := by rw [← hr59]; exact e11_
          have e60_17 : r58 17 = (.bool (decide (¬ (0 ≤ at_ ∧ at_ ≤ 4611686018427387904 ∧ 0 ≤ size ∧ size ≤ n * 64)))) := by rw [← hr59]; exact e26_17
          have e60_23 : r58 23 = (.bool (!(!p.off))) := by rw [← hr59]; exact e26_23
          have e60_27 : r58 27 = v20 := by rw [← hr59]; exact e26_27
          have e60_28 : r58 28 = (.int .i64 (((allP fr (n * 64) (at_ % (n * 64)) size).length : Nat) : Int)) := by rw [← hr59]; exact e26_28
          have e60_29 : r58 29 = (.int .i64 (j : Int)) := by rw [← hr59]; exact e26_29
          have e60_30 : r58 30 = (.bool (decide ((j : Int) < (((allP fr (n * 64) (at_ % (n * 64)) size).length : Nat) : Int)))) := by rw [← hr59]; exact rfl
          refine t_norm (hK47 _ _ ?_)
          refine wp_seq_k fun K61 hK61 => ?_
          refine wp_seq_k fun K62 hK62 => ?_
          refine c_region ?_
          refine s_op (o_move (v := (.int .i64 (readE p la x40.sec))) e60_12 ?_)
          refine s_op (o_neq (a := readE p la x40.sec) (b := 0) rfl rfl ?_)
          refine s_nil ?_
          refine t_norm (hK62 _ _ ?_)
          refine c_cond rfl (fun h63 => ?_) (fun h63 => ?_)
          · -- readE p la x40.sec ≠ 0
            obtain ⟨hq1, hq2, hq3, hq4, hq5⟩ := hpk x40 (List.mem_of_getElem? hx41)
            have hrd_ := read_now hp (la := la) (lo := lo) (n := x40.sec) ⟨by omega, by omega⟩
            exact absurd hrd_.2 h63
          · -- not: readE p la x40.sec ≠ 0
            obtain ⟨hq1, hq2, hq3, hq4, hq5⟩ := hpk x40 (List.mem_of_getElem? hx41)
            have hrd_ := read_now hp (la := la) (lo := lo) (n := x40.sec) ⟨by omega, by omega⟩
            have hrl_ : (readS p la lo x40.sec).length = 64 := by rw [hrd_.1]; exact nowAt_len h64 hlo (by omega)
            refine wp_skip ?_
            refine t_norm (hK61 _ _ ?_)
            refine c_region ?_
            refine s_op (o_move (v := (S (readS p la lo x40.sec))) e60_11 ?_)
            refine s_op (o_fieldAddr (k := 1) (fun _ => by kernel_rfl) e60_10 ?_)
            refine s_op (o_load1 (v := (.int .i64 x40.frm)) Try.underlying3 rfl rfl hH57 (seg_sub 0 rfl) (CellsAt.one rfl) ?_)
            refine s_op (o_fieldAddr (k := 2) (fun _ => by kernel_rfl) e60_10 ?_)
            refine s_op (o_load1 (v := (.int .i64 x40.upto)) Try.underlying3 rfl rfl hH57 (seg_sub 0 rfl) (CellsAt.one rfl) ?_)
            refine s_op (o_ssl Try.underlying9 rfl rfl rfl (by omega) (by omega) (by omega) ?_)
            refine s_op (o_callf (vs := #[(.pointer (some ⟨b15, 0, none⟩)), (S (((readS p la lo x40.sec).take (x40.upto).toNat).drop (x40.frm).toNat))]) ca81 rfl (args2 e60_8 rfl) (bws (hH57.front 1 rfl).all1 hB (((readS p la lo x40.sec).take (x40.upto).toNat).drop (x40.frm).toNat) (by simp only [List.length_drop, List.length_take]; omega)) ?_)
            rintro _ w68 ⟨sg64, rfl, hB65, hX66⟩
            refine ⟨_, rfl, ?_⟩
            have hH67 : Has E w68 [sg64, [Hp.one b42 (.cells #[(.int .i64 x40.sec), (.int .i64 x40.frm), (.int .i64 x40.upto)] 145 (0, 0))], s21, [Hp.one ab (.cells #[(.pointer (some ⟨db, 0, none⟩)), (.int .i64 fr), (.int .i64 n)] 139 (0, 0))], sg, [Hp.one pb (.cells #[(.bool p.off), (.bool p.armed), (.int .i64 p.left), (.int .i64 p.uses)] 101 (0, 0))], R] := hX66.of_all1
            refine s_nil ?_
            refine b_norm ?_
            refine t_norm (hK35 _ _ ?_)
            refine c_region ?_
            refine s_op (o_add (a := (j : Int)) (b := 1) e60_29 rfl (w64 (by omega) (by omega)) ?_)
            refine s_op (o_move (v := (.int .i64 ((j : Int) + 1))) rfl ?_)
            refine s_nil ?_
            have hH69 : Has E w68 [sg64, s21, [Hp.one ab (.cells #[(.pointer (some ⟨db, 0, none⟩)), (.int .i64 fr), (.int .i64 n)] 139 (0, 0))], sg, [Hp.one pb (.cells #[(.bool p.off), (.bool p.armed), (.int .i64 p.left), (.int .i64 p.uses)] 101 (0, 0))], R] := Has.pick hH67 [0, 1, 1, 1, 1, 1] (by kernel_rfl)
            refine t_norm ⟨(allP fr (n * 64) (at_ % (n * 64)) size).length - (j + 1), _, rfl, ?_, ?_⟩
            · omega
            · exact ⟨(j + 1), sg64, (acc ++ (((readS p la lo x40.sec).take (x40.upto).toNat).drop (x40.frm).toNat)), rfl, hH69, (by omega), (hB65), (by simp only [List.length_append, List.length_drop, List.length_take]; omega), (by rw [take_succ_of (show (allP fr (n * 64) (at_ % (n * 64)) size)[j]? = some _ from hx41), getP_snoc, ← hacc, hrd_.1]; rfl), e60_0, e60_1, e60_2, e60_8, e60_17, e60_23, e60_27, e60_28, rfl⟩
      · -- not: (j : Int) < (((allP fr (n * 64) (at_ % (n * 64)) size).length : Nat) : Int)
        refine wp_exit ?_
        refine t_exit (t_exit (x_in (?_)))
        refine t_norm (hK18 _ _ ?_)
        refine wp_seq_k fun K70 hK70 => ?_
        refine c_region ?_
        refine s_op (o_callf (vs := #[(.pointer (some ⟨b15, 0, none⟩))]) ca82 rfl (args1 e26_8) (bstr hH30.all1 hB) ?_)
        rintro _ w73 ⟨rfl, hX71⟩
        refine ⟨_, rfl, ?_⟩
        have hH72 : Has E w73 [s21, [Hp.one ab (.cells #[(.pointer (some ⟨db, 0, none⟩)), (.int .i64 fr), (.int .i64 n)] 139 (0, 0))], sg, [Hp.one pb (.cells #[(.bool p.off), (.bool p.armed), (.int .i64 p.left), (.int .i64 p.uses)] 101 (0, 0))], R] := hX71.of_all
        refine s_op (o_assign (v := (S acc)) rfl ?_)
        refine s_op (o_assign (v := (.int .i64 0)) rfl ?_)
        refine s_nil ?_
        refine t_norm (hK70 _ _ ?_)
        refine wp_ret ?_
        refine c_ret2 Try.results26  (v := (S acc)) rfl (x := (.int .i64 0)) rfl ?_
        have hH74 : Has E w73 [sg, [Hp.one pb (.cells #[(.bool p.off), (.bool p.armed), (.int .i64 p.left), (.int .i64 p.uses)] 101 (0, 0))], [Hp.one ab (.cells #[(.pointer (some ⟨db, 0, none⟩)), (.int .i64 fr), (.int .i64 n)] 139 (0, 0))], R] := ((((hH72.front 4 rfl).front 2 rfl).front 4 rfl).front 4 rfl).first 4 rfl
        have e_ : j = (allP fr (n * 64) (at_ % (n * 64)) size).length := by omega
        rw [e_, List.take_of_length_le (Nat.le_refl _)] at hacc
        exact ⟨by rw [← hacc], hH74⟩
end Go.Q
