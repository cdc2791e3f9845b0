/-
  Parts of a walk: what functions of the program compute, each told by a theorem.
-/
import Derived.Test.YtcffibbdbalmjaaQE10
set_option linter.unusedVariables false
set_option linter.unusedSimpArgs false
namespace Go.Q
open Go.Proofs
set_option linter.unusedVariables false
set_option maxRecDepth 100000
attribute [local irreducible] wpList OK Code.wp
set_option maxHeartbeats 4000000 in
theorem does_c {E w : World} {R sg h1 h2 h3 : List Hp} {pb db qm qb k : Nat} {p q : Pw} {la nw : List Bs} {lo : List (Int × Bs)} {ls : List Int} {v1 v2 v3 : Value} (hH : Has E w [sg, [Hp.one pb (.cells #[(.bool p.off), (.bool p.armed), (.int .i64 p.left), (.int .i64 p.uses)] 101 (0, 0))], h1, h2, h3, [Hp.one qm (.cells #[v1, v2, v3] 189 (0, 0))], [Hp.one qb (.cells #[(.bool q.off), (.bool q.armed), (.int .i64 q.left), (.int .i64 q.uses)] 112 (0, 0))], R]) (hd : DevAt pb sg db la lo) (ho1 : Own 9 1 v1 la.length (la.map sV) h1) (ho2 : Own 9 1 v2 nw.length (nw.map sV) h2) (ho3 : Own 3 1 v3 ls.length (ls.map iV) h3) (hsim : Sim la lo nw ls) (hpr : PR k p q) (hk : k ≤ 1000) (hla : la.length ≤ 4096) {kd n : Int} {ot : Bool} {dv : Value} {da : List Bs} {kv : Value} {ke : List Int} (hm : DaOk R (DAct.mk kd n ot dv da kv ke)) (hfin : DFin (DAct.mk kd n ot dv da kv ke)) :
    Calls Try.prog 55 #[(.pointer (some ⟨db, 0, none⟩)), (.pointer (some ⟨qm, 0, none⟩)), (.pointer (some ⟨qb, 0, none⟩)), (.agg #[(.int .i64 kd), (.int .i64 n), (.bool ot), dv, kv])] w fun e w' => ∃ sg' la' lo' p' q' nw' ls' v1' h1' v2' h2' v3' h3', e = .returned (.bool true) ∧ DevAt pb sg' db la' lo' ∧ la'.length = la.length ∧ Sim la' lo' nw' ls' ∧ PR (k + 1) p' q' ∧ Own 9 1 v1' la'.length (la'.map sV) h1' ∧ Own 9 1 v2' nw'.length (nw'.map sV) h2' ∧ Own 3 1 v3' ls'.length (ls'.map iV) h3' ∧ Has E w' [sg', [Hp.one pb (.cells #[(.bool p'.off), (.bool p'.armed), (.int .i64 p'.left), (.int .i64 p'.uses)] 101 (0, 0))], h1', h2', h3', [Hp.one qm (.cells #[v1', v2', v3'] 189 (0, 0))], [Hp.one qb (.cells #[(.bool q'.off), (.bool q'.armed), (.int .i64 q'.left), (.int .i64 q'.uses)] 112 (0, 0))], R] := by
  obtain ⟨hfa, hfb, hfc⟩ : da.length ≤ 6 ∧ da.flatten.length ≤ 200 ∧ ke.length ≤ 40 := hfin
  have hnl := hsim.len
  have hnb : n ≤ 9223372036854775807 := hm.2.2.2.2
  have hna : -9223372036854775808 ≤ n := hm.2.2.2.1
  have hok_ := hpr.ok (by omega)
  have hlsl := hsim.ls_le
  refine c_enter (args := [(.pointer (some ⟨db, 0, none⟩)), (.pointer (some ⟨qm, 0, none⟩)), (.pointer (some ⟨qb, 0, none⟩)), (.agg #[(.int .i64 kd), (.int .i64 n), (.bool ot), dv, kv])]) Try.func55 rfl Try.ntmps55 (by simp) ?_
  refine wp_seq_k fun K1 hK1 => ?_
  refine c_region ?_
  refine s_op (o_box (cs := #[(.int .i64 kd), (.int .i64 n), (.bool ot), dv, kv]) rfl rfl hH fun b2 w3 hH4 => ?_)
  refine s_op (o_assign (v := (.bool false)) rfl ?_)
  refine s_nil ?_
  refine t_norm (hK1 _ _ ?_)
  refine wp_seq_k fun K5 hK5 => ?_
  refine c_region ?_
  refine s_op (o_fieldAddr (k := 3) (fun _ => by kernel_rfl) rfl ?_)
  refine s_op (o_load1 (v := dv) Try.underlying53 rfl rfl hH4 (seg_sub 0 rfl) (CellsAt.one rfl) ?_)
  refine s_op (o_callf (vs := #[dv]) ca53 rfl (args1 rfl) (ljoin_c hH4.all (l := da) (hm.1.mono (seg_sub 8 rfl)) hm.2.2.1 (by omega)) ?_)
  rintro _ w8 ⟨rfl, hX6⟩
  refine ⟨_, rfl, ?_⟩
  have hH7 := hX6.of_all
  refine s_op (o_assign (v := (S da.flatten)) rfl ?_)
  refine s_nil ?_
  refine t_norm (hK5 _ _ ?_)
  refine wp_seq_k fun K9 hK9 => ?_
  by_cases h10 : 0 ≤ n
  · -- 0 ≤ n
    refine c_flow3 [[Hp.one b2 (.cells #[(.int .i64 kd), (.int .i64 n), (.bool ot), dv, kv] 104 (0, 0))], sg, [Hp.one pb (.cells #[(.bool p.off), (.bool p.armed), (.int .i64 p.left), (.int .i64 p.uses)] 101 (0, 0))], h1, h2, h3, [Hp.one qm (.cells #[v1, v2, v3] 189 (0, 0))], [Hp.one qb (.cells #[(.bool q.off), (.bool q.armed), (.int .i64 q.left), (.int .i64 q.uses)] 112 (0, 0))], R] (fun i_ => match i_ with | _ => []) (fun i_ v_ h_ m_ => match i_ with | 0 => v_ = (.pointer (some ⟨b2, 1, none⟩)) ∧ h_ = [] | 1 => v_ = (.int .i64 n) ∧ h_ = [] | 2 => v_ = (.bool (decide (0 ≤ n))) ∧ h_ = [] | 3 => v_ = (.bool (decide (0 ≤ n))) ∧ h_ = [] | 4 => v_ = (.pointer (some ⟨b2, 1, none⟩)) ∧ h_ = [] | 5 => v_ = (.int .i64 n) ∧ h_ = [] | 6 => v_ = (.pointer (some ⟨qm, 0, none⟩)) ∧ h_ = [] | 7 => v_ = (.pointer (some ⟨qm, 0, none⟩)) ∧ h_ = [] | 8 => v_ = (.pointer (some ⟨qm, 1, none⟩)) ∧ h_ = [] | 9 => v_ = v2 ∧ h_ = [] | 10 => v_ = (.int .i64 ((nw.length : Nat) : Int)) ∧ h_ = [] | 11 => v_ = (.bool (decide (n < ((nw.length : Nat) : Int)))) ∧ h_ = [] | 12 => v_ = (.bool (decide (n < ((nw.length : Nat) : Int)))) ∧ h_ = [] | 13 => v_ = (.bool (decide (n < ((nw.length : Nat) : Int)))) ∧ h_ = [] | _ => True) mixed (by kernel_rfl) (flow_has (cs := []) hH7 rfl) ?_ ?_
    · intro i_ o_ ho_ r' w' G hs_ ht
      match i_, ho_ with
      | 0, ho_ =>
        obtain rfl := Option.some.inj ho_
        have e7 : r' 7 = (.pointer (some ⟨b2, 0, none⟩)) := ht.was 7 (by kernel_rfl)
        have hG := ht.has.drop
        refine GOK.free rfl ?_
        refine o_fieldAddr (k := 1) (fun _ => by kernel_rfl) e7 ?_
        exact ⟨_, ⟨rfl, rfl⟩, hG⟩
      | 1, ho_ =>
        obtain rfl := Option.some.inj ho_
        obtain ⟨e20, eh0⟩ := (ht.done 0 _ rfl rfl).1
        have hG := ht.has.drop
        refine GOK.free rfl ?_
        refine o_load1 (v := (.int .i64 n)) Try.underlying3 rfl e20 hG (ht.fr [Hp.one b2 (.cells #[(.int .i64 kd), (.int .i64 n), (.bool ot), dv, kv] 104 (0, 0))] (by simp)) (CellsAt.one rfl) ?_
        exact ⟨_, ⟨rfl, rfl⟩, hG⟩
      | 2, ho_ =>
        obtain rfl := Option.some.inj ho_
        obtain ⟨e21, eh1⟩ := (ht.done 1 _ rfl rfl).1
        have hG := ht.has.drop
        refine GOK.free rfl ?_
        refine o_geq (a := n) (b := 0) e21 rfl ?_
        exact ⟨_, ⟨rfl, rfl⟩, hG⟩
      | 3, ho_ =>
        obtain rfl := Option.some.inj ho_
        obtain ⟨e22, eh2⟩ := (ht.done 2 _ rfl rfl).1
        have hG := ht.has.drop
        refine GOK.free rfl ?_
        refine o_move (v := (.bool (decide (0 ≤ n)))) e22 ?_
        exact ⟨_, ⟨rfl, rfl⟩, hG⟩
      | 4, ho_ =>
        obtain rfl := Option.some.inj ho_
        obtain ⟨e23, eh3⟩ := (ht.done 3 _ rfl rfl).1
        have e7 : r' 7 = (.pointer (some ⟨b2, 0, none⟩)) := ht.was 7 (by kernel_rfl)
        have hG := ht.has.drop
        refine GOK.on rfl rfl (Eq.trans e23 (congrArg Value.bool (decide_eq_true h10))) ?_
        refine o_fieldAddr (k := 1) (fun _ => by kernel_rfl) e7 ?_
        exact ⟨_, ⟨rfl, rfl⟩, hG⟩
      | 5, ho_ =>
        obtain rfl := Option.some.inj ho_
        obtain ⟨e23, eh3⟩ := (ht.done 3 _ rfl rfl).1
        obtain ⟨e24, eh4⟩ := (ht.done 4 _ rfl rfl).1
        have hG := ht.has.drop
        refine GOK.on rfl rfl (Eq.trans e23 (congrArg Value.bool (decide_eq_true h10))) ?_
        refine o_load1 (v := (.int .i64 n)) Try.underlying3 rfl e24 hG (ht.fr [Hp.one b2 (.cells #[(.int .i64 kd), (.int .i64 n), (.bool ot), dv, kv] 104 (0, 0))] (by simp)) (CellsAt.one rfl) ?_
        exact ⟨_, ⟨rfl, rfl⟩, hG⟩
      | 6, ho_ =>
        obtain rfl := Option.some.inj ho_
        obtain ⟨e23, eh3⟩ := (ht.done 3 _ rfl rfl).1
        have e1 : r' 1 = (.pointer (some ⟨qm, 0, none⟩)) := ht.was 1 (by kernel_rfl)
        have hG := ht.has.drop
        refine GOK.on rfl rfl (Eq.trans e23 (congrArg Value.bool (decide_eq_true h10))) ?_
        refine o_move (v := (.pointer (some ⟨qm, 0, none⟩))) e1 ?_
        exact ⟨_, ⟨rfl, rfl⟩, hG⟩
      | 7, ho_ =>
        obtain rfl := Option.some.inj ho_
        obtain ⟨e23, eh3⟩ := (ht.done 3 _ rfl rfl).1
        obtain ⟨e26, eh6⟩ := (ht.done 6 _ rfl rfl).1
        have hG := ht.has.drop
        refine GOK.on rfl rfl (Eq.trans e23 (congrArg Value.bool (decide_eq_true h10))) ?_
        refine o_nilCheck e26 ?_
        exact ⟨_, ⟨rfl, rfl⟩, hG⟩
      | 8, ho_ =>
        obtain rfl := Option.some.inj ho_
        obtain ⟨e23, eh3⟩ := (ht.done 3 _ rfl rfl).1
        obtain ⟨e27, eh7⟩ := (ht.done 7 _ rfl rfl).1
        have hG := ht.has.drop
        refine GOK.on rfl rfl (Eq.trans e23 (congrArg Value.bool (decide_eq_true h10))) ?_
        refine o_fieldAddr (k := 1) (fun _ => by kernel_rfl) e27 ?_
        exact ⟨_, ⟨rfl, rfl⟩, hG⟩
      | 9, ho_ =>
        obtain rfl := Option.some.inj ho_
        obtain ⟨e23, eh3⟩ := (ht.done 3 _ rfl rfl).1
        obtain ⟨e28, eh8⟩ := (ht.done 8 _ rfl rfl).1
        have hG := ht.has.drop
        refine GOK.on rfl rfl (Eq.trans e23 (congrArg Value.bool (decide_eq_true h10))) ?_
        refine o_load1 (v := v2) Try.underlying53 rfl e28 hG (ht.fr [Hp.one qm (.cells #[v1, v2, v3] 189 (0, 0))] (by simp)) (CellsAt.one rfl) ?_
        exact ⟨_, ⟨rfl, rfl⟩, hG⟩
      | 10, ho_ =>
        obtain rfl := Option.some.inj ho_
        obtain ⟨e23, eh3⟩ := (ht.done 3 _ rfl rfl).1
        obtain ⟨e29, eh9⟩ := (ht.done 9 _ rfl rfl).1
        have hG := ht.has.drop
        refine GOK.on rfl rfl (Eq.trans e23 (congrArg Value.bool (decide_eq_true h10))) ?_
        refine o_lenS Try.underlying53 e29 ho2.sl ?_
        exact ⟨_, ⟨rfl, rfl⟩, hG⟩
      | 11, ho_ =>
        obtain rfl := Option.some.inj ho_
        obtain ⟨e23, eh3⟩ := (ht.done 3 _ rfl rfl).1
        obtain ⟨e25, eh5⟩ := (ht.done 5 _ rfl rfl).1
        obtain ⟨e30, eh10⟩ := (ht.done 10 _ rfl rfl).1
        have hG := ht.has.drop
        refine GOK.on rfl rfl (Eq.trans e23 (congrArg Value.bool (decide_eq_true h10))) ?_
        refine o_lss (a := n) (b := ((nw.length : Nat) : Int)) e25 e30 ?_
        exact ⟨_, ⟨rfl, rfl⟩, hG⟩
      | 12, ho_ =>
        obtain rfl := Option.some.inj ho_
        obtain ⟨e23, eh3⟩ := (ht.done 3 _ rfl rfl).1
        obtain ⟨e31, eh11⟩ := (ht.done 11 _ rfl rfl).1
        have hG := ht.has.drop
        refine GOK.free rfl ?_
        refine o_pick_t (u := (.bool (decide (n < ((nw.length : Nat) : Int))))) ((e23 : _ = _).trans (congrArg Value.bool (decide_eq_true h10))) e31 ?_
        exact ⟨_, ⟨rfl, rfl⟩, hG⟩
      | 13, ho_ =>
        obtain rfl := Option.some.inj ho_
        obtain ⟨e32, eh12⟩ := (ht.done 12 _ rfl rfl).1
        have hG := ht.has.drop
        refine GOK.free rfl ?_
        refine o_assign (v := (.bool (decide (n < ((nw.length : Nat) : Int))))) e32 ?_
        exact ⟨_, ⟨rfl, rfl⟩, hG⟩
      | i_ + 14, ho_ => exact absurd ho_ (by simp)
    · intro vs11 hs12 w13 hT14 hH15
      obtain ⟨e0_, eh0_⟩ := hT14 0 _ rfl
      obtain ⟨e1_, eh1_⟩ := hT14 1 _ rfl
      obtain ⟨e2_, eh2_⟩ := hT14 2 _ rfl
      obtain ⟨e3_, eh3_⟩ := hT14 3 _ rfl
      obtain ⟨e4_, eh4_⟩ := hT14 4 _ rfl
      obtain ⟨e5_, eh5_⟩ := hT14 5 _ rfl
      obtain ⟨e6_, eh6_⟩ := hT14 6 _ rfl
      obtain ⟨e7_, eh7_⟩ := hT14 7 _ rfl
      obtain ⟨e8_, eh8_⟩ := hT14 8 _ rfl
      obtain ⟨e9_, eh9_⟩ := hT14 9 _ rfl
      obtain ⟨e10_, eh10_⟩ := hT14 10 _ rfl
      obtain ⟨e11_, eh11_⟩ := hT14 11 _ rfl
      obtain ⟨e12_, eh12_⟩ := hT14 12 _ rfl
      obtain ⟨e13_, eh13_⟩ := hT14 13 _ rfl
      have hH16 : Has E w13 ([[Hp.one b2 (.cells #[(.int .i64 kd), (.int .i64 n), (.bool ot), dv, kv] 104 (0, 0))], sg, [Hp.one pb (.cells #[(.bool p.off), (.bool p.armed), (.int .i64 p.left), (.int .i64 p.uses)] 101 (0, 0))], h1, h2, h3, [Hp.one qm (.cells #[v1, v2, v3] 189 (0, 0))], [Hp.one qb (.cells #[(.bool q.off), (.bool q.armed), (.int .i64 q.left), (.int .i64 q.uses)] 112 (0, 0))], R] ++ []) := flow_back (cs := []) hH15 (by show (hs12 0 ++ (hs12 1 ++ (hs12 2 ++ (hs12 3 ++ (hs12 4 ++ (hs12 5 ++ (hs12 6 ++ (hs12 7 ++ (hs12 8 ++ (hs12 9 ++ (hs12 10 ++ (hs12 11 ++ (hs12 12 ++ (hs12 13 ++ [])))))))))))))) = _; rw [eh0_, eh1_, eh2_, eh3_, eh4_, eh5_, eh6_, eh7_, eh8_, eh9_, eh10_, eh11_, eh12_, eh13_]; rfl)
      generalize hr18 : puts vs11 _ 0 _ = r17
      have e19_0 : r17 0 = (.pointer (some ⟨db, 0, none⟩)) := by rw [← hr18]; exact rfl
      have e19_1 : r17 1 = (.pointer (some ⟨qm, 0, none⟩)) := by rw [← hr18]; exact rfl
      have e19_2 : r17 2 = (.pointer (some ⟨qb, 0, none⟩)) := by rw [← hr18]; exact rfl
      have e19_3 : r17 3 = (.agg #[(.int .i64 kd), (.int .i64 n), (.bool ot), dv, kv]) := by rw [← hr18]; exact rfl
      have e19_7 : r17 7 = (.pointer (some ⟨b2, 0, none⟩)) := by rw [← hr18]; exact rfl
      have e19_8 : r17 8 = (.bool false) := by rw [← hr18]; exact rfl
      have e19_9 : r17 9 = (S da.flatten) := by rw [← hr18]; exact rfl
      have e19_10 : r17 10 = (.bool (decide (n < ((nw.length : Nat) : Int)))) := by rw [← hr18]; exact e13_
      refine t_norm (hK9 _ _ ?_)
      refine wp_seq_k fun K20 hK20 => ?_
      refine wp_seq_k fun K21 hK21 => ?_
      refine c_region ?_
      refine s_op (o_fieldAddr (k := 0) (fun _ => by kernel_rfl) e19_7 ?_)
      refine s_op (o_load1 (v := (.int .i64 kd)) Try.underlying3 rfl rfl hH16 (seg_sub 0 rfl) (CellsAt.one rfl) ?_)
      refine s_nil ?_
      refine t_norm (hK21 _ _ ?_)
      refine wp_block ?_
      refine wp_seq_k fun K22 hK22 => ?_
      refine c_region ?_
      refine s_op (o_eql (a := kd) (b := 0) rfl rfl ?_)
      refine s_op (o_assign (v := (.bool (decide (kd = 0)))) rfl ?_)
      refine s_nil ?_
      refine t_norm (hK22 _ _ ?_)
      refine c_cond rfl (fun h23 => ?_) (fun h23 => ?_)
      · -- kd = 0
        refine wp_seq_k fun K24 hK24 => ?_
        refine c_region ?_
        refine s_op (o_assign (v := (.int .i64 0)) rfl ?_)
        refine s_nil ?_
        refine t_norm (hK24 _ _ ?_)
        refine wp_seq_k fun K25 hK25 => ?_
        refine wp_seq_k fun K26 hK26 => ?_
        refine c_region ?_
        refine s_op (o_move (v := (.pointer (some ⟨qb, 0, none⟩))) e19_2 ?_)
        refine s_op (o_callf (vs := #[(.pointer (some ⟨qb, 0, none⟩))]) ca104 rfl (args1 rfl) (muse_c (q := q) (hH16.front 7 rfl).all1 hok_.2) ?_)
        rintro _ w29 ⟨rfl, hX27⟩
        refine ⟨_, rfl, ?_⟩
        have hH28 : Has E w29 [[Hp.one qb (.cells #[(.bool (useM q).off), (.bool (useM q).armed), (.int .i64 (useM q).left), (.int .i64 (useM q).uses)] 112 (0, 0))], [Hp.one b2 (.cells #[(.int .i64 kd), (.int .i64 n), (.bool ot), dv, kv] 104 (0, 0))], sg, [Hp.one pb (.cells #[(.bool p.off), (.bool p.armed), (.int .i64 p.left), (.int .i64 p.uses)] 101 (0, 0))], h1, h2, h3, [Hp.one qm (.cells #[v1, v2, v3] 189 (0, 0))], R] := hX27.of_all1
        refine s_op (o_not rfl ?_)
        refine s_nil ?_
        refine t_norm (hK26 _ _ ?_)
        refine c_condb rfl (fun h30 => ?_) (fun h30 => ?_)
        · -- !(useMB q)
          have h30_n : (useMB q) = false := by simpa using h30
          refine c_region ?_
          refine s_op (o_assign (v := (.int .i64 6)) rfl ?_)
          refine s_nil ?_
          refine t_norm (hK25 _ _ ?_)
          refine wp_seq_k fun K31 hK31 => ?_
          refine c_region ?_
          refine s_op (o_move (v := (.pointer (some ⟨db, 0, none⟩))) e19_0 ?_)
          refine s_op (o_fieldAddr (k := 1) (fun _ => by kernel_rfl) e19_7 ?_)
          refine s_op (o_load1 (v := (.int .i64 n)) Try.underlying3 rfl rfl hH28 (seg_sub 1 rfl) (CellsAt.one rfl) ?_)
          refine s_op (o_fieldAddr (k := 3) (fun _ => by kernel_rfl) e19_7 ?_)
          refine s_op (o_load1 (v := dv) Try.underlying53 rfl rfl hH28 (seg_sub 1 rfl) (CellsAt.one rfl) ?_)
          refine s_op (o_callf (vs := #[(.pointer (some ⟨db, 0, none⟩)), (.int .i64 n), dv]) ca29 rfl (args3 rfl rfl rfl) (write_d (p := p) (la := la) (lo := lo) ((hH28.front 3 rfl).front 3 rfl).all2 hd hok_.1 hla n (l := da) (hm.1.mono (seg_sub 6 rfl)) (by omega) (by omega)) ?_)
          rintro _ w36 ⟨sg32, rfl, hd33, hX34⟩
          refine ⟨_, rfl, ?_⟩
          have hH35 : Has E w36 [sg32, [Hp.one pb (.cells #[(.bool (useS p).off), (.bool (useS p).armed), (.int .i64 (useS p).left), (.int .i64 (useS p).uses)] 101 (0, 0))], [Hp.one qb (.cells #[(.bool (useM q).off), (.bool (useM q).armed), (.int .i64 (useM q).left), (.int .i64 (useM q).uses)] 112 (0, 0))], [Hp.one b2 (.cells #[(.int .i64 kd), (.int .i64 n), (.bool ot), dv, kv] 104 (0, 0))], h1, h2, h3, [Hp.one qm (.cells #[v1, v2, v3] 189 (0, 0))], R] := hX34.of_all2
          refine s_op (o_move (v := (.int .i64 6)) rfl ?_)
          refine s_op (o_eql (a := writeE p la.length n da.flatten) (b := 6) rfl rfl ?_)
          refine s_op (o_assign (v := (.bool (decide (writeE p la.length n da.flatten = 6)))) rfl ?_)
          refine s_nil ?_
          refine t_norm (hK31 _ _ ?_)
          refine wp_ret ?_
          refine b_ret (t_ret (c_ret1 Try.results55  (v := (.bool (decide (writeE p la.length n da.flatten = 6)))) rfl ?_))
          have hH37 : Has E w36 [sg32, [Hp.one pb (.cells #[(.bool (useS p).off), (.bool (useS p).armed), (.int .i64 (useS p).left), (.int .i64 (useS p).uses)] 101 (0, 0))], h1, h2, h3, [Hp.one qm (.cells #[v1, v2, v3] 189 (0, 0))], [Hp.one qb (.cells #[(.bool (useM q).off), (.bool (useM q).armed), (.int .i64 (useM q).left), (.int .i64 (useM q).uses)] 112 (0, 0))], R] := Has.pick hH35 [0, 0, 2, 2, 2, 2, 0, 1] (by kernel_rfl)
          have hS := hsim.write_off (n := n) (s := da.flatten) hpr h30_n
          exact ⟨_, _, _, (useS p), _, _, _, _, _, _, _, _, _, by rw [decide_eq_true (show _ = _ from hS.2)], hd33, rfl, hS.1, hpr.use, ho1, ho2, ho3, hH37⟩
        · -- not: !(useMB q)
          have h30_n : (useMB q) = true := by simpa using h30
          refine wp_seq_k fun K38 hK38 => ?_
          refine c_region ?_
          refine s_op (o_move (v := (.bool (decide (n < ((nw.length : Nat) : Int))))) e19_10 ?_)
          refine s_op (o_not2 (b := decide (n < ((nw.length : Nat) : Int))) (b' := decide (¬ (n < ((nw.length : Nat) : Int)))) rfl not_dec ?_)
          refine s_op (o_move (v := (.bool (decide (¬ (n < ((nw.length : Nat) : Int)))))) rfl ?_)
          by_cases h39 : ¬ (n < ((nw.length : Nat) : Int))
          · -- ¬ (n < ((nw.length : Nat) : Int))
            refine s_off (b' := true) 84 rfl (congrArg Value.bool (decide_eq_true h39)) rfl ?_
            refine s_off (b' := true) 84 rfl (congrArg Value.bool (decide_eq_true h39)) rfl ?_
            refine s_off (b' := true) 84 rfl (congrArg Value.bool (decide_eq_true h39)) rfl ?_
            refine s_op (o_pick_t (u := (.bool true)) ((rfl : _ = _).trans (congrArg Value.bool (decide_eq_true h39))) rfl ?_)
            refine s_nil ?_
            refine t_norm (hK38 _ _ ?_)
            refine c_true rfl rfl ?_
            refine c_region ?_
            refine s_op (o_assign (v := (.int .i64 1)) rfl ?_)
            refine s_nil ?_
            refine t_norm (hK25 _ _ ?_)
            refine wp_seq_k fun K40 hK40 => ?_
            refine c_region ?_
            refine s_op (o_move (v := (.pointer (some ⟨db, 0, none⟩))) e19_0 ?_)
            refine s_op (o_fieldAddr (k := 1) (fun _ => by kernel_rfl) e19_7 ?_)
            refine s_op (o_load1 (v := (.int .i64 n)) Try.underlying3 rfl rfl hH28 (seg_sub 1 rfl) (CellsAt.one rfl) ?_)
            refine s_op (o_fieldAddr (k := 3) (fun _ => by kernel_rfl) e19_7 ?_)
            refine s_op (o_load1 (v := dv) Try.underlying53 rfl rfl hH28 (seg_sub 1 rfl) (CellsAt.one rfl) ?_)
            refine s_op (o_callf (vs := #[(.pointer (some ⟨db, 0, none⟩)), (.int .i64 n), dv]) ca29 rfl (args3 rfl rfl rfl) (write_d (p := p) (la := la) (lo := lo) ((hH28.front 3 rfl).front 3 rfl).all2 hd hok_.1 hla n (l := da) (hm.1.mono (seg_sub 6 rfl)) (by omega) (by omega)) ?_)
            rintro _ w45 ⟨sg41, rfl, hd42, hX43⟩
            refine ⟨_, rfl, ?_⟩
            have hH44 : Has E w45 [sg41, [Hp.one pb (.cells #[(.bool (useS p).off), (.bool (useS p).armed), (.int .i64 (useS p).left), (.int .i64 (useS p).uses)] 101 (0, 0))], [Hp.one qb (.cells #[(.bool (useM q).off), (.bool (useM q).armed), (.int .i64 (useM q).left), (.int .i64 (useM q).uses)] 112 (0, 0))], [Hp.one b2 (.cells #[(.int .i64 kd), (.int .i64 n), (.bool ot), dv, kv] 104 (0, 0))], h1, h2, h3, [Hp.one qm (.cells #[v1, v2, v3] 189 (0, 0))], R] := hX43.of_all2
            refine s_op (o_move (v := (.int .i64 1)) rfl ?_)
            refine s_op (o_eql (a := writeE p la.length n da.flatten) (b := 1) rfl rfl ?_)
            refine s_op (o_assign (v := (.bool (decide (writeE p la.length n da.flatten = 1)))) rfl ?_)
            refine s_nil ?_
            refine t_norm (hK40 _ _ ?_)
            refine wp_ret ?_
            refine b_ret (t_ret (c_ret1 Try.results55  (v := (.bool (decide (writeE p la.length n da.flatten = 1)))) rfl ?_))
            have hH46 : Has E w45 [sg41, [Hp.one pb (.cells #[(.bool (useS p).off), (.bool (useS p).armed), (.int .i64 (useS p).left), (.int .i64 (useS p).uses)] 101 (0, 0))], h1, h2, h3, [Hp.one qm (.cells #[v1, v2, v3] 189 (0, 0))], [Hp.one qb (.cells #[(.bool (useM q).off), (.bool (useM q).armed), (.int .i64 (useM q).left), (.int .i64 (useM q).uses)] 112 (0, 0))], R] := Has.pick hH44 [0, 0, 2, 2, 2, 2, 0, 1] (by kernel_rfl)
            have hS := hsim.write_bad (n := n) (s := da.flatten) hpr h30_n (fun g => by have g1 := g.1; have g2 := g.2.1; have g3 := g.2.2; omega)
            exact ⟨_, _, _, (useS p), _, _, _, _, _, _, _, _, _, by rw [decide_eq_true (show _ = _ from hS.2)], hd42, rfl, hS.1, hpr.use, ho1, ho2, ho3, hH46⟩
          · -- not: ¬ (n < ((nw.length : Nat) : Int))
            refine s_on 84 rfl (congrArg Value.bool (decide_eq_false h39)) (o_move (v := (S da.flatten)) e19_9 ?_)
            refine s_on 84 rfl (congrArg Value.bool (decide_eq_false h39)) (o_slen Try.underlying9 rfl ?_)
            refine s_on 84 rfl (congrArg Value.bool (decide_eq_false h39)) (o_gtr (a := (da.flatten.length : Int)) (b := 64) rfl rfl ?_)
            refine s_op (o_pick_f (u := (.bool (decide (64 < (da.flatten.length : Int))))) ((rfl : _ = _).trans (congrArg Value.bool (decide_eq_false h39))) rfl ?_)
            refine s_nil ?_
            refine t_norm (hK38 _ _ ?_)
            refine c_cond rfl (fun h47 => ?_) (fun h47 => ?_)
            · -- 64 < (da.flatten.length : Int)
              refine c_region ?_
              refine s_op (o_assign (v := (.int .i64 1)) rfl ?_)
              refine s_nil ?_
              refine t_norm (hK25 _ _ ?_)
              refine wp_seq_k fun K48 hK48 => ?_
              refine c_region ?_
              refine s_op (o_move (v := (.pointer (some ⟨db, 0, none⟩))) e19_0 ?_)
              refine s_op (o_fieldAddr (k := 1) (fun _ => by kernel_rfl) e19_7 ?_)
              refine s_op (o_load1 (v := (.int .i64 n)) Try.underlying3 rfl rfl hH28 (seg_sub 1 rfl) (CellsAt.one rfl) ?_)
              refine s_op (o_fieldAddr (k := 3) (fun _ => by kernel_rfl) e19_7 ?_)
              refine s_op (o_load1 (v := dv) Try.underlying53 rfl rfl hH28 (seg_sub 1 rfl) (CellsAt.one rfl) ?_)
              refine s_op (o_callf (vs := #[(.pointer (some ⟨db, 0, none⟩)), (.int .i64 n), dv]) ca29 rfl (args3 rfl rfl rfl) (write_d (p := p) (la := la) (lo := lo) ((hH28.front 3 rfl).front 3 rfl).all2 hd hok_.1 hla n (l := da) (hm.1.mono (seg_sub 6 rfl)) (by omega) (by omega)) ?_)
              rintro _ w53 ⟨sg49, rfl, hd50, hX51⟩
              refine ⟨_, rfl, ?_⟩
              have hH52 : Has E w53 [sg49, [Hp.one pb (.cells #[(.bool (useS p).off), (.bool (useS p).armed), (.int .i64 (useS p).left), (.int .i64 (useS p).uses)] 101 (0, 0))], [Hp.one qb (.cells #[(.bool (useM q).off), (.bool (useM q).armed), (.int .i64 (useM q).left), (.int .i64 (useM q).uses)] 112 (0, 0))], [Hp.one b2 (.cells #[(.int .i64 kd), (.int .i64 n), (.bool ot), dv, kv] 104 (0, 0))], h1, h2, h3, [Hp.one qm (.cells #[v1, v2, v3] 189 (0, 0))], R] := hX51.of_all2
              refine s_op (o_move (v := (.int .i64 1)) rfl ?_)
              refine s_op (o_eql (a := writeE p la.length n da.flatten) (b := 1) rfl rfl ?_)
              refine s_op (o_assign (v := (.bool (decide (writeE p la.length n da.flatten = 1)))) rfl ?_)
              refine s_nil ?_
              refine t_norm (hK48 _ _ ?_)
              refine wp_ret ?_
              refine b_ret (t_ret (c_ret1 Try.results55  (v := (.bool (decide (writeE p la.length n da.flatten = 1)))) rfl ?_))
              have hH54 : Has E w53 [sg49, [Hp.one pb (.cells #[(.bool (useS p).off), (.bool (useS p).armed), (.int .i64 (useS p).left), (.int .i64 (useS p).uses)] 101 (0, 0))], h1, h2, h3, [Hp.one qm (.cells #[v1, v2, v3] 189 (0, 0))], [Hp.one qb (.cells #[(.bool (useM q).off), (.bool (useM q).armed), (.int .i64 (useM q).left), (.int .i64 (useM q).uses)] 112 (0, 0))], R] := Has.pick hH52 [0, 0, 2, 2, 2, 2, 0, 1] (by kernel_rfl)
              have hS := hsim.write_bad (n := n) (s := da.flatten) hpr h30_n (fun g => by have g1 := g.1; have g2 := g.2.1; have g3 := g.2.2; omega)
              exact ⟨_, _, _, (useS p), _, _, _, _, _, _, _, _, _, by rw [decide_eq_true (show _ = _ from hS.2)], hd50, rfl, hS.1, hpr.use, ho1, ho2, ho3, hH54⟩
            · -- not: 64 < (da.flatten.length : Int)
              refine wp_seq_k fun K55 hK55 => ?_
              have hH65 : Has E w29 [[Hp.one qb (.cells #[(.bool (useM q).off), (.bool (useM q).armed), (.int .i64 (useM q).left), (.int .i64 (useM q).uses)] 112 (0, 0))], [Hp.one b2 (.cells #[(.int .i64 kd), (.int .i64 n), (.bool ot), dv, kv] 104 (0, 0))], sg, [Hp.one pb (.cells #[(.bool p.off), (.bool p.armed), (.int .i64 p.left), (.int .i64 p.uses)] 101 (0, 0))], h1, h3, [Hp.one qm (.cells #[v1, v2, v3] 189 (0, 0))], R, h2] := Has.pick hH28 [0, 0, 0, 0, 0, 1, 1, 1, 0] (by kernel_rfl)
              refine c_flow [[Hp.one qb (.cells #[(.bool (useM q).off), (.bool (useM q).armed), (.int .i64 (useM q).left), (.int .i64 (useM q).uses)] 112 (0, 0))], [Hp.one b2 (.cells #[(.int .i64 kd), (.int .i64 n), (.bool ot), dv, kv] 104 (0, 0))], sg, [Hp.one pb (.cells #[(.bool p.off), (.bool p.armed), (.int .i64 p.left), (.int .i64 p.uses)] 101 (0, 0))], h1, h3, [Hp.one qm (.cells #[v1, v2, v3] 189 (0, 0))], R] (fun i_ => match i_ with | 9 => h2 | _ => []) (fun i_ v_ h_ => match i_ with | 0 => v_ = (.pointer (some ⟨qm, 0, none⟩)) ∧ h_ = [] | 1 => v_ = (.pointer (some ⟨qm, 0, none⟩)) ∧ h_ = [] | 2 => v_ = (.pointer (some ⟨qm, 1, none⟩)) ∧ h_ = [] | 3 => v_ = v2 ∧ h_ = [] | 4 => v_ = (.pointer (some ⟨b2, 1, none⟩)) ∧ h_ = [] | 5 => v_ = (.int .i64 n) ∧ h_ = [] | 6 => v_ = (S da.flatten) ∧ h_ = [] | 7 => v_ = (S (fillS da.flatten)) ∧ h_ = [] | 8 => ∃ (b59 : Nat), v_ = (.pointer (some ⟨b59, (n).toNat, none⟩)) ∧ h_ = [] ∧ (OwnAt 9 v2 nw.length (nw.map sV) h2 b59) | 9 => ∃ (s61 : List Hp), v_ = undef ∧ h_ = s61 ∧ (Own 9 1 v2 (nw.set ((n).toNat) (fillS da.flatten)).length ((nw.set ((n).toNat) (fillS da.flatten)).map sV) s61) | _ => True) mixed (by kernel_rfl) (flow_has (cs := [h2]) hH65 rfl) ?_ ?_
              · intro i_ o_ ho_ r' w' G hs_ ht
                match i_, ho_ with
                | 0, ho_ =>
                  obtain rfl := Option.some.inj ho_
                  have e1 : r' 1 = (.pointer (some ⟨qm, 0, none⟩)) := (ht.was 1 (by kernel_rfl)).trans e19_1
                  have hG := ht.has.drop
                  refine o_move (v := (.pointer (some ⟨qm, 0, none⟩))) e1 ?_
                  exact ⟨_, ⟨rfl, rfl⟩, hG⟩
                | 1, ho_ =>
                  obtain rfl := Option.some.inj ho_
                  obtain ⟨e89, eh0⟩ := (ht.done 0 _ rfl rfl).1
                  have hG := ht.has.drop
                  refine o_nilCheck e89 ?_
                  exact ⟨_, ⟨rfl, rfl⟩, hG⟩
                | 2, ho_ =>
                  obtain rfl := Option.some.inj ho_
                  obtain ⟨e90, eh1⟩ := (ht.done 1 _ rfl rfl).1
                  have hG := ht.has.drop
                  refine o_fieldAddr (k := 1) (fun _ => by kernel_rfl) e90 ?_
                  exact ⟨_, ⟨rfl, rfl⟩, hG⟩
                | 3, ho_ =>
                  obtain rfl := Option.some.inj ho_
                  obtain ⟨e91, eh2⟩ := (ht.done 2 _ rfl rfl).1
                  have hG := ht.has.drop
                  refine o_load1 (v := v2) Try.underlying53 rfl e91 hG (ht.fr [Hp.one qm (.cells #[v1, v2, v3] 189 (0, 0))] (by simp)) (CellsAt.one rfl) ?_
                  exact ⟨_, ⟨rfl, rfl⟩, hG⟩
                | 4, ho_ =>
                  obtain rfl := Option.some.inj ho_
                  have e7 : r' 7 = (.pointer (some ⟨b2, 0, none⟩)) := (ht.was 7 (by kernel_rfl)).trans e19_7
                  have hG := ht.has.drop
                  refine o_fieldAddr (k := 1) (fun _ => by kernel_rfl) e7 ?_
                  exact ⟨_, ⟨rfl, rfl⟩, hG⟩
                | 5, ho_ =>
                  obtain rfl := Option.some.inj ho_
                  obtain ⟨e93, eh4⟩ := (ht.done 4 _ rfl rfl).1
                  have hG := ht.has.drop
                  refine o_load1 (v := (.int .i64 n)) Try.underlying3 rfl e93 hG (ht.fr [Hp.one b2 (.cells #[(.int .i64 kd), (.int .i64 n), (.bool ot), dv, kv] 104 (0, 0))] (by simp)) (CellsAt.one rfl) ?_
                  exact ⟨_, ⟨rfl, rfl⟩, hG⟩
                | 6, ho_ =>
                  obtain rfl := Option.some.inj ho_
                  have e9 : r' 9 = (S da.flatten) := (ht.was 9 (by kernel_rfl)).trans e19_9
                  have hG := ht.has.drop
                  refine o_move (v := (S da.flatten)) e9 ?_
                  exact ⟨_, ⟨rfl, rfl⟩, hG⟩
                | 7, ho_ =>
                  obtain rfl := Option.some.inj ho_
                  obtain ⟨e95, eh6⟩ := (ht.done 6 _ rfl rfl).1
                  have hG := ht.has.drop
                  refine o_callf (vs := #[(S da.flatten)]) ca30 rfl (args1 e95) (lfill_c hG.all da.flatten (by omega)) ?_
                  rintro _ w58 ⟨rfl, hX56⟩
                  refine ⟨_, rfl, ?_⟩
                  have hH57 := hX56.of_all
                  exact ⟨_, ⟨rfl, rfl⟩, hH57⟩
                | 8, ho_ =>
                  obtain rfl := Option.some.inj ho_
                  obtain ⟨e92, eh3⟩ := (ht.done 3 _ rfl rfl).1
                  obtain ⟨e94, eh5⟩ := (ht.done 5 _ rfl rfl).1
                  have hG := ht.has.drop
                  refine o_ownAddr Try.underlying53 ti9 e92 ho2 e94 (by omega) (by first | omega | (simp only [List.length_append, List.length_cons, List.length_nil, List.length_set]; omega)) fun b59 ho60 => ?_
                  exact ⟨_, ⟨b59, rfl, rfl, ho60⟩, hG⟩
                | 9, ho_ =>
                  obtain rfl := Option.some.inj ho_
                  obtain ⟨e96, eh7⟩ := (ht.done 7 _ rfl rfl).1
                  obtain ⟨b59, e97, eh8, ho60⟩ := (ht.done 8 _ rfl rfl).1
                  have hG := ht.has
                  refine o_ownStore (f := sV) (l := nw) (a := (fillS da.flatten)) ti9 e97 e96 rfl ho60 (by first | omega | (simp only [List.length_append, List.length_cons, List.length_nil, List.length_set]; omega)) hG fun s61 w62 ho63 hH64 => ?_
                  exact ⟨_, ⟨s61, rfl, rfl, ho63⟩, hH64⟩
                | i_ + 10, ho_ => exact absurd ho_ (by simp)
              · intro vs65 hs66 w67 hT68 hH69
                obtain ⟨e0_, eh0_⟩ := hT68 0 _ rfl
                obtain ⟨e1_, eh1_⟩ := hT68 1 _ rfl
                obtain ⟨e2_, eh2_⟩ := hT68 2 _ rfl
                obtain ⟨e3_, eh3_⟩ := hT68 3 _ rfl
                obtain ⟨e4_, eh4_⟩ := hT68 4 _ rfl
                obtain ⟨e5_, eh5_⟩ := hT68 5 _ rfl
                obtain ⟨e6_, eh6_⟩ := hT68 6 _ rfl
                obtain ⟨e7_, eh7_⟩ := hT68 7 _ rfl
                obtain ⟨b59, e8_, eh8_, ho60⟩ := hT68 8 _ rfl
                obtain ⟨s61, e9_, eh9_, ho63⟩ := hT68 9 _ rfl
                have hH70 : Has E w67 ([[Hp.one qb (.cells #[(.bool (useM q).off), (.bool (useM q).armed), (.int .i64 (useM q).left), (.int .i64 (useM q).uses)] 112 (0, 0))], [Hp.one b2 (.cells #[(.int .i64 kd), (.int .i64 n), (.bool ot), dv, kv] 104 (0, 0))], sg, [Hp.one pb (.cells #[(.bool p.off), (.bool p.armed), (.int .i64 p.left), (.int .i64 p.uses)] 101 (0, 0))], h1, h3, [Hp.one qm (.cells #[v1, v2, v3] 189 (0, 0))], R] ++ [s61]) := flow_back (cs := [s61]) hH69 (by show (hs66 0 ++ (hs66 1 ++ (hs66 2 ++ (hs66 3 ++ (hs66 4 ++ (hs66 5 ++ (hs66 6 ++ (hs66 7 ++ (hs66 8 ++ (hs66 9 ++ [])))))))))) = _; rw [eh0_, eh1_, eh2_, eh3_, eh4_, eh5_, eh6_, eh7_, eh8_, eh9_]; rfl)
                generalize hr72 : puts vs65 _ 0 _ = r71
                have e73_0 : r71 0 = (.pointer (some ⟨db, 0, none⟩)) := by rw [← hr72]; exact e19_0
                have e73_1 : r71 1 = (.pointer (some ⟨qm, 0, none⟩)) := by rw [← hr72]; exact e19_1
                have e73_2 : r71 2 = (.pointer (some ⟨qb, 0, none⟩)) := by rw [← hr72]; exact e19_2
                have e73_3 : r71 3 = (.agg #[(.int .i64 kd), (.int .i64 n), (.bool ot), dv, kv]) := by rw [← hr72]; exact e19_3
                have e73_7 : r71 7 = (.pointer (some ⟨b2, 0, none⟩)) := by rw [← hr72]; exact e19_7
                have e73_8 : r71 8 = (.bool false) := by rw [← hr72]; exact e19_8
                have e73_9 : r71 9 = (S da.flatten) := by rw [← hr72]; exact e19_9
                have e73_10 : r71 10 = (.bool (decide (n < ((nw.length : Nat) : Int)))) := by rw [← hr72]; exact e19_10
                have e73_11 : r71 11 = (.int .i64 0) := by rw [← hr72]; exact rfl
                have e73_34 : r71 34 = (.int .i64 kd) := by rw [← hr72]; exact rfl
                have e73_77 : r71 77 = (.bool (decide (kd = 0))) := by rw [← hr72]; exact rfl
                have e73_81 : r71 81 = (.bool (!(useMB q))) := by rw [← hr72]; exact rfl
                have e73_88 : r71 88 = (.bool (decide (64 < (da.flatten.length : Int)))) := by rw [← hr72]; exact rfl
                refine t_norm (hK55 _ _ ?_)
                have hH82 : Has E w67 [[Hp.one qb (.cells #[(.bool (useM q).off), (.bool (useM q).armed), (.int .i64 (useM q).left), (.int .i64 (useM q).uses)] 112 (0, 0))], [Hp.one b2 (.cells #[(.int .i64 kd), (.int .i64 n), (.bool ot), dv, kv] 104 (0, 0))], sg, [Hp.one pb (.cells #[(.bool p.off), (.bool p.armed), (.int .i64 p.left), (.int .i64 p.uses)] 101 (0, 0))], h1, h3, R, s61, [Hp.one qm (.cells #[v1, v2, v3] 189 (0, 0))]] := Has.pick hH70 [0, 0, 0, 0, 0, 0, 1, 1, 0] (by kernel_rfl)
                refine c_flow2 [[Hp.one qb (.cells #[(.bool (useM q).off), (.bool (useM q).armed), (.int .i64 (useM q).left), (.int .i64 (useM q).uses)] 112 (0, 0))], [Hp.one b2 (.cells #[(.int .i64 kd), (.int .i64 n), (.bool ot), dv, kv] 104 (0, 0))], sg, [Hp.one pb (.cells #[(.bool p.off), (.bool p.armed), (.int .i64 p.left), (.int .i64 p.uses)] 101 (0, 0))], h1, h3, R, s61] (fun i_ => match i_ with | 10 => [Hp.one qm (.cells #[v1, v2, v3] 189 (0, 0))] | _ => []) (fun i_ v_ h_ m_ => match i_ with | 0 => v_ = (.pointer (some ⟨qm, 0, none⟩)) ∧ h_ = [] | 1 => v_ = (.pointer (some ⟨qm, 0, none⟩)) ∧ h_ = [] | 2 => v_ = (.pointer (some ⟨qm, 0, none⟩)) ∧ h_ = [] | 3 => v_ = (.pointer (some ⟨qm, 2, none⟩)) ∧ h_ = [] | 4 => v_ = v3 ∧ h_ = [] | 5 => v_ = (.pointer (some ⟨b2, 1, none⟩)) ∧ h_ = [] | 6 => v_ = (.int .i64 n) ∧ h_ = [] | 7 => ∃ (v74 : Value) (s75 : List Hp), v_ = v74 ∧ h_ = s75 ∧ (Own 3 1 v74 (withS n (!true) ls).length ((withS n (!true) ls).map iV) s75) | 8 => v_ = (.pointer (some ⟨qm, 0, none⟩)) ∧ h_ = [] | 9 => v_ = (.pointer (some ⟨qm, 2, none⟩)) ∧ h_ = [] | 10 => ∃ (v74 : Value), m_ 7 = v74 ∧ v_ = undef ∧ h_ = [Hp.one qm (.cells #[v1, v2, v74] 189 (0, 0))] | _ => True) mixed (by kernel_rfl) (flow_has (cs := [[Hp.one qm (.cells #[v1, v2, v3] 189 (0, 0))]]) hH82 rfl) ?_ ?_
                · intro i_ o_ ho_ r' w' G hs_ ht
                  match i_, ho_ with
                  | 0, ho_ =>
                    obtain rfl := Option.some.inj ho_
                    have e1 : r' 1 = (.pointer (some ⟨qm, 0, none⟩)) := (ht.was 1 (by kernel_rfl)).trans e73_1
                    have hG := ht.has.drop
                    refine o_move (v := (.pointer (some ⟨qm, 0, none⟩))) e1 ?_
                    exact ⟨_, ⟨rfl, rfl⟩, hG⟩
                  | 1, ho_ =>
                    obtain rfl := Option.some.inj ho_
                    have e1 : r' 1 = (.pointer (some ⟨qm, 0, none⟩)) := (ht.was 1 (by kernel_rfl)).trans e73_1
                    have hG := ht.has.drop
                    refine o_move (v := (.pointer (some ⟨qm, 0, none⟩))) e1 ?_
                    exact ⟨_, ⟨rfl, rfl⟩, hG⟩
                  | 2, ho_ =>
                    obtain rfl := Option.some.inj ho_
                    obtain ⟨e99, eh1⟩ := (ht.done 1 _ rfl rfl).1
                    have hG := ht.has.drop
                    refine o_nilCheck e99 ?_
                    exact ⟨_, ⟨rfl, rfl⟩, hG⟩
                  | 3, ho_ =>
                    obtain rfl := Option.some.inj ho_
                    obtain ⟨e100, eh2⟩ := (ht.done 2 _ rfl rfl).1
                    have hG := ht.has.drop
                    refine o_fieldAddr (k := 2) (fun _ => by kernel_rfl) e100 ?_
                    exact ⟨_, ⟨rfl, rfl⟩, hG⟩
                  | 4, ho_ =>
                    obtain rfl := Option.some.inj ho_
                    obtain ⟨e101, eh3⟩ := (ht.done 3 _ rfl rfl).1
                    have hG := ht.has.drop
                    refine o_load1 (v := v3) Try.underlying54 rfl e101 hG (ht.todo 10 rfl) (CellsAt.one rfl) ?_
                    exact ⟨_, ⟨rfl, rfl⟩, hG⟩
                  | 5, ho_ =>
                    obtain rfl := Option.some.inj ho_
                    have e7 : r' 7 = (.pointer (some ⟨b2, 0, none⟩)) := (ht.was 7 (by kernel_rfl)).trans e73_7
                    have hG := ht.has.drop
                    refine o_fieldAddr (k := 1) (fun _ => by kernel_rfl) e7 ?_
                    exact ⟨_, ⟨rfl, rfl⟩, hG⟩
                  | 6, ho_ =>
                    obtain rfl := Option.some.inj ho_
                    obtain ⟨e103, eh5⟩ := (ht.done 5 _ rfl rfl).1
                    have hG := ht.has.drop
                    refine o_load1 (v := (.int .i64 n)) Try.underlying3 rfl e103 hG (ht.fr [Hp.one b2 (.cells #[(.int .i64 kd), (.int .i64 n), (.bool ot), dv, kv] 104 (0, 0))] (by simp)) (CellsAt.one rfl) ?_
                    exact ⟨_, ⟨rfl, rfl⟩, hG⟩
                  | 7, ho_ =>
                    obtain rfl := Option.some.inj ho_
                    obtain ⟨e102, eh4⟩ := (ht.done 4 _ rfl rfl).1
                    obtain ⟨e104, eh6⟩ := (ht.done 6 _ rfl rfl).1
                    have hG := ht.has.drop
                    refine o_callf (vs := #[v3, (.int .i64 n), (.bool true)]) ca42 rfl (args3 e102 e104 rfl) (with_c hG.all (l := ls) (ho3.sl.mono (ht.fr h3 (by simp))) (by omega) n true) ?_
                    rintro _ w79 ⟨v74, s75, rfl, ho76, hX77⟩
                    refine ⟨_, rfl, ?_⟩
                    have hH78 := hX77.of_all1
                    exact ⟨_, ⟨v74, s75, rfl, rfl, ho76⟩, hH78⟩
                  | 8, ho_ =>
                    obtain rfl := Option.some.inj ho_
                    obtain ⟨e98, eh0⟩ := (ht.done 0 _ rfl rfl).1
                    obtain ⟨v74, s75, e105, eh7, ho76⟩ := (ht.done 7 _ rfl rfl).1
                    have hG := ht.has.drop
                    refine o_nilCheck e98 ?_
                    exact ⟨_, ⟨rfl, rfl⟩, hG⟩
                  | 9, ho_ =>
                    obtain rfl := Option.some.inj ho_
                    obtain ⟨v74, s75, e105, eh7, ho76⟩ := (ht.done 7 _ rfl rfl).1
                    obtain ⟨e106, eh8⟩ := (ht.done 8 _ rfl rfl).1
                    have hG := ht.has.drop
                    refine o_fieldAddr (k := 2) (fun _ => by kernel_rfl) e106 ?_
                    exact ⟨_, ⟨rfl, rfl⟩, hG⟩
                  | 10, ho_ =>
                    obtain rfl := Option.some.inj ho_
                    obtain ⟨v74, s75, e105, eh7, ho76⟩ := (ht.done 7 _ rfl rfl).1
                    obtain ⟨e107, eh9⟩ := (ht.done 9 _ rfl rfl).1
                    have hG := ht.has
                    refine o_store1 (c' := #[v1, v2, v74]) ti54 e107 e105 ho76.one (by simp) rfl (hG.front 0 rfl) fun w80 hH81 => ?_
                    exact ⟨_, ⟨v74, e105, rfl, rfl⟩, hH81⟩
                  | i_ + 11, ho_ => exact absurd ho_ (by simp)
                · intro vs82 hs83 w84 hT85 hH86
                  obtain ⟨e0_, eh0_⟩ := hT85 0 _ rfl
                  obtain ⟨e1_, eh1_⟩ := hT85 1 _ rfl
                  obtain ⟨e2_, eh2_⟩ := hT85 2 _ rfl
                  obtain ⟨e3_, eh3_⟩ := hT85 3 _ rfl
                  obtain ⟨e4_, eh4_⟩ := hT85 4 _ rfl
                  obtain ⟨e5_, eh5_⟩ := hT85 5 _ rfl
                  obtain ⟨e6_, eh6_⟩ := hT85 6 _ rfl
                  obtain ⟨v74, s75, e7_, eh7_, ho76⟩ := hT85 7 _ rfl
                  obtain ⟨e8_, eh8_⟩ := hT85 8 _ rfl
                  obtain ⟨e9_, eh9_⟩ := hT85 9 _ rfl
                  obtain ⟨v74_10, q10_7, e10_, eh10_⟩ := hT85 10 _ rfl
                  have z_ : v74 = v74_10 := Eq.trans (Eq.symm e7_) q10_7
                  subst z_
                  have hH87 : Has E w84 ([[Hp.one qb (.cells #[(.bool (useM q).off), (.bool (useM q).armed), (.int .i64 (useM q).left), (.int .i64 (useM q).uses)] 112 (0, 0))], [Hp.one b2 (.cells #[(.int .i64 kd), (.int .i64 n), (.bool ot), dv, kv] 104 (0, 0))], sg, [Hp.one pb (.cells #[(.bool p.off), (.bool p.armed), (.int .i64 p.left), (.int .i64 p.uses)] 101 (0, 0))], h1, h3, R, s61] ++ [s75, [Hp.one qm (.cells #[v1, v2, v74] 189 (0, 0))]]) := flow_back (cs := [s75, [Hp.one qm (.cells #[v1, v2, v74] 189 (0, 0))]]) hH86 (by show (hs83 0 ++ (hs83 1 ++ (hs83 2 ++ (hs83 3 ++ (hs83 4 ++ (hs83 5 ++ (hs83 6 ++ (hs83 7 ++ (hs83 8 ++ (hs83 9 ++ (hs83 10 ++ []))))))))))) = _; rw [eh0_, eh1_, eh2_, eh3_, eh4_, eh5_, eh6_, eh7_, eh8_, eh9_, eh10_]; rfl)
                  generalize hr89 : puts vs82 _ 0 _ = r88
                  have e90_0 : r88 0 = (.pointer (some ⟨db, 0, none⟩)) := by rw [← hr89]; exact e73_0
                  have e90_1 : r88 1 = (.pointer (some ⟨qm, 0, none⟩)) := by rw [← hr89]; exact e73_1
                  have e90_2 : r88 2 = (.pointer (some ⟨qb, 0, none⟩)) := by rw [← hr89]; exact e73_2
                  have e90_3 : r88 3 = (.agg #[(.int .i64 kd), (.int .i64 n), (.bool ot), dv, kv]) := by rw [← hr89]; exact e73_3
                  have e90_7 : r88 7 = (.pointer (some ⟨b2, 0, none⟩)) := by rw [← hr89]; exact e73_7
                  have e90_8 : r88 8 = (.bool false) := by rw [← hr89]; exact e73_8
                  have e90_9 : r88 9 = (S da.flatten) := by rw [← hr89]; exact e73_9
                  have e90_10 : r88 10 = (.bool (decide (n < ((nw.length : Nat) : Int)))) := by rw [← hr89]; exact e73_10
                  have e90_11 : r88 11 = (.int .i64 0) := by rw [← hr89]; exact e73_11
                  have e90_34 : r88 34 = (.int .i64 kd) := by rw [← hr89]; exact e73_34
                  have e90_77 : r88 77 = (.bool (decide (kd = 0))) := by rw [← hr89]; exact e73_77
                  have e90_81 : r88 81 = (.bool (!(useMB q))) := by rw [← hr89]; exact e73_81
                  have e90_88 : r88 88 = (.bool (decide (64 < (da.flatten.length : Int)))) := by rw [← hr89]; exact e73_88
                  refine t_norm (hK25 _ _ ?_)
                  refine wp_seq_k fun K91 hK91 => ?_
                  refine c_region ?_
                  refine s_op (o_move (v := (.pointer (some ⟨db, 0, none⟩))) e90_0 ?_)
                  refine s_op (o_fieldAddr (k := 1) (fun _ => by kernel_rfl) e90_7 ?_)
                  refine s_op (o_load1 (v := (.int .i64 n)) Try.underlying3 rfl rfl hH87 (seg_sub 1 rfl) (CellsAt.one rfl) ?_)
                  refine s_op (o_fieldAddr (k := 3) (fun _ => by kernel_rfl) e90_7 ?_)
                  refine s_op (o_load1 (v := dv) Try.underlying53 rfl rfl hH87 (seg_sub 1 rfl) (CellsAt.one rfl) ?_)
                  refine s_op (o_callf (vs := #[(.pointer (some ⟨db, 0, none⟩)), (.int .i64 n), dv]) ca29 rfl (args3 rfl rfl rfl) (write_d (p := p) (la := la) (lo := lo) ((hH87.front 3 rfl).front 3 rfl).all2 hd hok_.1 hla n (l := da) (hm.1.mono (seg_sub 4 rfl)) (by omega) (by omega)) ?_)
                  rintro _ w96 ⟨sg92, rfl, hd93, hX94⟩
                  refine ⟨_, rfl, ?_⟩
                  have hH95 : Has E w96 [sg92, [Hp.one pb (.cells #[(.bool (useS p).off), (.bool (useS p).armed), (.int .i64 (useS p).left), (.int .i64 (useS p).uses)] 101 (0, 0))], [Hp.one qb (.cells #[(.bool (useM q).off), (.bool (useM q).armed), (.int .i64 (useM q).left), (.int .i64 (useM q).uses)] 112 (0, 0))], [Hp.one b2 (.cells #[(.int .i64 kd), (.int .i64 n), (.bool ot), dv, kv] 104 (0, 0))], h1, h3, R, s61, s75, [Hp.one qm (.cells #[v1, v2, v74] 189 (0, 0))]] := hX94.of_all2
                  refine s_op (o_move (v := (.int .i64 0)) e90_11 ?_)
                  refine s_op (o_eql (a := writeE p la.length n da.flatten) (b := 0) rfl rfl ?_)
                  refine s_op (o_assign (v := (.bool (decide (writeE p la.length n da.flatten = 0)))) rfl ?_)
                  refine s_nil ?_
                  refine t_norm (hK91 _ _ ?_)
                  refine wp_ret ?_
                  refine b_ret (t_ret (c_ret1 Try.results55  (v := (.bool (decide (writeE p la.length n da.flatten = 0)))) rfl ?_))
                  have hH97 : Has E w96 [sg92, [Hp.one pb (.cells #[(.bool (useS p).off), (.bool (useS p).armed), (.int .i64 (useS p).left), (.int .i64 (useS p).uses)] 101 (0, 0))], h1, s61, s75, [Hp.one qm (.cells #[v1, v2, v74] 189 (0, 0))], [Hp.one qb (.cells #[(.bool (useM q).off), (.bool (useM q).armed), (.int .i64 (useM q).left), (.int .i64 (useM q).uses)] 112 (0, 0))], R] := Has.pick hH95 [0, 0, 2, 4, 4, 4, 0, 2] (by kernel_rfl)
                  have hS := hsim.write_ok (n := n) (s := da.flatten) hpr h30_n (by omega) (show inS n la.length from ⟨by omega, by omega⟩)
                  exact ⟨_, _, _, (useS p), _, _, _, _, _, _, _, _, _, by rw [decide_eq_true (show _ = _ from hS.2)], hd93, rfl, hS.1, hpr.use, ho1, ho63, ho76, hH97⟩
      · -- not: kd = 0
        refine wp_seq_k fun K98 hK98 => ?_
        refine c_region ?_
        refine s_op (o_eql (a := kd) (b := 1) rfl rfl ?_)
        refine s_op (o_assign (v := (.bool (decide (kd = 1)))) rfl ?_)
        refine s_nil ?_
        refine t_norm (hK98 _ _ ?_)
        refine c_cond rfl (fun h99 => ?_) (fun h99 => ?_)
        · -- kd = 1
          refine wp_seq_k fun K100 hK100 => ?_
          refine c_region ?_
          refine s_op (o_assign (v := (.int .i64 0)) rfl ?_)
          refine s_nil ?_
          refine t_norm (hK100 _ _ ?_)
          refine wp_seq_k fun K101 hK101 => ?_
          refine wp_seq_k fun K102 hK102 => ?_
          refine c_region ?_
          refine s_op (o_move (v := (.pointer (some ⟨qb, 0, none⟩))) e19_2 ?_)
          refine s_op (o_callf (vs := #[(.pointer (some ⟨qb, 0, none⟩))]) ca104 rfl (args1 rfl) (muse_c (q := q) (hH16.front 7 rfl).all1 hok_.2) ?_)
          rintro _ w105 ⟨rfl, hX103⟩
          refine ⟨_, rfl, ?_⟩
          have hH104 : Has E w105 [[Hp.one qb (.cells #[(.bool (useM q).off), (.bool (useM q).armed), (.int .i64 (useM q).left), (.int .i64 (useM q).uses)] 112 (0, 0))], [Hp.one b2 (.cells #[(.int .i64 kd), (.int .i64 n), (.bool ot), dv, kv] 104 (0, 0))], sg, [Hp.one pb (.cells #[(.bool p.off), (.bool p.armed), (.int .i64 p.left), (.int .i64 p.uses)] 101 (0, 0))], h1, h2, h3, [Hp.one qm (.cells #[v1, v2, v3] 189 (0, 0))], R] := hX103.of_all1
          refine s_op (o_not rfl ?_)
          refine s_nil ?_
          refine t_norm (hK102 _ _ ?_)
          refine c_condb rfl (fun h106 => ?_) (fun h106 => ?_)
          · -- !(useMB q)
            have h106_n : (useMB q) = false := by simpa using h106
            refine c_region ?_
            refine s_op (o_assign (v := (.int .i64 6)) rfl ?_)
            refine s_nil ?_
            refine t_norm (hK101 _ _ ?_)
            refine wp_seq_k fun K107 hK107 => ?_
            refine c_region ?_
            refine s_op (o_move (v := (.pointer (some ⟨db, 0, none⟩))) e19_0 ?_)
            refine s_op (o_callf (vs := #[(.pointer (some ⟨db, 0, none⟩))]) ca31 rfl (args1 rfl) (sync_d (p := p) (la := la) (lo := lo) ((hH104.front 3 rfl).front 3 rfl).all2 hd hok_.1 hla hsim.ok) ?_)
            rintro _ w112 ⟨sg108, rfl, hd109, hX110⟩
            refine ⟨_, rfl, ?_⟩
            have hH111 : Has E w112 [sg108, [Hp.one pb (.cells #[(.bool (useS p).off), (.bool (useS p).armed), (.int .i64 (useS p).left), (.int .i64 (useS p).uses)] 101 (0, 0))], [Hp.one qb (.cells #[(.bool (useM q).off), (.bool (useM q).armed), (.int .i64 (useM q).left), (.int .i64 (useM q).uses)] 112 (0, 0))], [Hp.one b2 (.cells #[(.int .i64 kd), (.int .i64 n), (.bool ot), dv, kv] 104 (0, 0))], h1, h2, h3, [Hp.one qm (.cells #[v1, v2, v3] 189 (0, 0))], R] := hX110.of_all2
            refine s_op (o_move (v := (.int .i64 6)) rfl ?_)
            refine s_op (o_eql (a := syncE p) (b := 6) rfl rfl ?_)
            refine s_op (o_assign (v := (.bool (decide (syncE p = 6)))) rfl ?_)
            refine s_nil ?_
            refine t_norm (hK107 _ _ ?_)
            refine wp_ret ?_
            refine b_ret (t_ret (c_ret1 Try.results55  (v := (.bool (decide (syncE p = 6)))) rfl ?_))
            have hH113 : Has E w112 [sg108, [Hp.one pb (.cells #[(.bool (useS p).off), (.bool (useS p).armed), (.int .i64 (useS p).left), (.int .i64 (useS p).uses)] 101 (0, 0))], h1, h2, h3, [Hp.one qm (.cells #[v1, v2, v3] 189 (0, 0))], [Hp.one qb (.cells #[(.bool (useM q).off), (.bool (useM q).armed), (.int .i64 (useM q).left), (.int .i64 (useM q).uses)] 112 (0, 0))], R] := Has.pick hH111 [0, 0, 2, 2, 2, 2, 0, 1] (by kernel_rfl)
            have hS := hsim.sync_off hpr h106_n
            exact ⟨_, _, _, (useS p), _, _, _, _, _, _, _, _, _, by rw [decide_eq_true (show _ = _ from hS.2.1)], hd109, (syncA_len _ _ _), hS.1, hpr.use, (by rw [hS.2.2]; exact ho1), ho2, ho3, hH113⟩
          · -- not: !(useMB q)
            have h106_n : (useMB q) = true := by simpa using h106
            refine wp_seq_k fun K114 hK114 => ?_
            refine c_region ?_
            refine s_op (o_move (v := (.pointer (some ⟨qm, 0, none⟩))) e19_1 ?_)
            refine s_op (o_buildSlice (ps := #[]) (cells := #[]) Try.underlying53 ti9 (by decide) (parts0) (by kernel_rfl) hH104 fun b115 w116 hH117 => ?_)
            refine s_op (o_move (v := (.pointer (some ⟨qm, 0, none⟩))) e19_1 ?_)
            refine s_op (o_nilCheck rfl ?_)
            refine s_op (o_fieldAddr (k := 1) (fun _ => by kernel_rfl) rfl ?_)
            refine s_op (o_load1 (v := v2) Try.underlying53 rfl rfl hH117 (seg_sub 8 rfl) (CellsAt.one rfl) ?_)
            refine s_op (o_append Try.underlying53 ti9 rfl (by decide) rfl (Own.lit (e := 9) (sz := 1) (n := 0) (b := b115) (cur := #[]) rfl (by decide)) rfl ho2.sl (hH117.front 0 rfl) (seg_sub 5 rfl) (one_sV _) (by simp; omega) (by simp; omega) fun v118 s119 w121 ho120 hH122 => ?_)
            have ho120 : Own 9 1 v118 nw.length (nw.map sV) s119 := Own.app (a := []) ho120
            refine s_op (o_nilCheck rfl ?_)
            refine s_op (o_fieldAddr (k := 0) (fun _ => by kernel_rfl) rfl ?_)
            refine s_eff (o_store1 (c' := #[v118, v2, v3]) ti53 rfl rfl ho120.one (by simp) rfl (hH122.front 8 rfl) fun w123 hH124 => ?_)
            refine s_nil ?_
            refine t_norm (hK114 _ _ ?_)
            refine c_region ?_
            refine s_op (o_move (v := (.pointer (some ⟨qm, 0, none⟩))) e19_1 ?_)
            refine s_op (o_nilCheck rfl ?_)
            refine s_op (o_fieldAddr (k := 2) (fun _ => by kernel_rfl) rfl ?_)
            refine s_eff (o_store1 (c' := #[v118, v2, (.slice none 0 0)]) ti54 rfl rfl rfl (by simp) rfl (hH124.front 0 rfl) fun w125 hH126 => ?_)
            refine s_nil ?_
            refine t_norm (hK101 _ _ ?_)
            refine wp_seq_k fun K127 hK127 => ?_
            refine c_region ?_
            refine s_op (o_move (v := (.pointer (some ⟨db, 0, none⟩))) e19_0 ?_)
            refine s_op (o_callf (vs := #[(.pointer (some ⟨db, 0, none⟩))]) ca31 rfl (args1 rfl) (sync_d (p := p) (la := la) (lo := lo) ((hH126.front 5 rfl).front 5 rfl).all2 hd hok_.1 hla hsim.ok) ?_)
            rintro _ w132 ⟨sg128, rfl, hd129, hX130⟩
            refine ⟨_, rfl, ?_⟩
            have hH131 : Has E w132 [sg128, [Hp.one pb (.cells #[(.bool (useS p).off), (.bool (useS p).armed), (.int .i64 (useS p).left), (.int .i64 (useS p).uses)] 101 (0, 0))], [Hp.one qm (.cells #[v118, v2, (.slice none 0 0)] 189 (0, 0))], s119, [Hp.one qb (.cells #[(.bool (useM q).off), (.bool (useM q).armed), (.int .i64 (useM q).left), (.int .i64 (useM q).uses)] 112 (0, 0))], [Hp.one b2 (.cells #[(.int .i64 kd), (.int .i64 n), (.bool ot), dv, kv] 104 (0, 0))], h1, h2, h3, R] := hX130.of_all2
            refine s_op (o_move (v := (.int .i64 0)) rfl ?_)
            refine s_op (o_eql (a := syncE p) (b := 0) rfl rfl ?_)
            refine s_op (o_assign (v := (.bool (decide (syncE p = 0)))) rfl ?_)
            refine s_nil ?_
            refine t_norm (hK127 _ _ ?_)
            refine wp_ret ?_
            refine b_ret (t_ret (c_ret1 Try.results55  (v := (.bool (decide (syncE p = 0)))) rfl ?_))
            have hH133 : Has E w132 [sg128, [Hp.one pb (.cells #[(.bool (useS p).off), (.bool (useS p).armed), (.int .i64 (useS p).left), (.int .i64 (useS p).uses)] 101 (0, 0))], s119, h2, [], [Hp.one qm (.cells #[v118, v2, (.slice none 0 0)] 189 (0, 0))], [Hp.one qb (.cells #[(.bool (useM q).off), (.bool (useM q).armed), (.int .i64 (useM q).left), (.int .i64 (useM q).uses)] 112 (0, 0))], R] := Has.pick (Has.nil hH131) [1, 1, 2, 5, 0, 0, 0, 3] (by kernel_rfl)
            have hS := hsim.sync_on hpr h106_n
            exact ⟨_, _, _, (useS p), _, _, _, _, _, _, _, _, _, by rw [decide_eq_true (show _ = _ from hS.2.1)], hd129, (syncA_len _ _ _), hS.1, hpr.use, (by rw [hS.2.2]; simpa using ho120), ho2, (Own.nil 3 1), hH133⟩
        · -- not: kd = 1
          refine wp_seq_k fun K134 hK134 => ?_
          refine c_region ?_
          refine s_op (o_eql (a := kd) (b := 2) rfl rfl ?_)
          refine s_op (o_assign (v := (.bool (decide (kd = 2)))) rfl ?_)
          refine s_nil ?_
          refine t_norm (hK134 _ _ ?_)
          refine c_cond rfl (fun h135 => ?_) (fun h135 => ?_)
          · -- kd = 2
            refine wp_seq_k fun K136 hK136 => ?_
            refine c_region ?_
            refine s_op (o_move (v := (.pointer (some ⟨db, 0, none⟩))) e19_0 ?_)
            refine s_op (o_fieldAddr (k := 1) (fun _ => by kernel_rfl) e19_7 ?_)
            refine s_op (o_load1 (v := (.int .i64 n)) Try.underlying3 rfl rfl hH16 (seg_sub 0 rfl) (CellsAt.one rfl) ?_)
            refine s_op (o_callf (vs := #[(.pointer (some ⟨db, 0, none⟩)), (.int .i64 n)]) ca33 rfl (args2 rfl rfl) (read_d (p := p) (la := la) (lo := lo) ((hH16.front 2 rfl).front 2 rfl).all2 hd n) ?_)
            rintro _ w139 ⟨rfl, hX137⟩
            refine ⟨_, rfl, ?_⟩
            have hH138 : Has E w139 [sg, [Hp.one pb (.cells #[(.bool p.off), (.bool p.armed), (.int .i64 p.left), (.int .i64 p.uses)] 101 (0, 0))], [Hp.one b2 (.cells #[(.int .i64 kd), (.int .i64 n), (.bool ot), dv, kv] 104 (0, 0))], h1, h2, h3, [Hp.one qm (.cells #[v1, v2, v3] 189 (0, 0))], [Hp.one qb (.cells #[(.bool q.off), (.bool q.armed), (.int .i64 q.left), (.int .i64 q.uses)] 112 (0, 0))], R] := hX137.of_all2
            refine s_op (o_move (v := (.tuple #[(S (readS p la lo n)), (.int .i64 (readE p la n))])) rfl ?_)
            refine s_op (o_extract (v := (S (readS p la lo n))) rfl rfl ?_)
            refine s_op (o_extract (v := (.int .i64 (readE p la n))) rfl rfl ?_)
            refine s_op (o_assign (v := (S (readS p la lo n))) rfl ?_)
            refine s_op (o_assign (v := (.int .i64 (readE p la n))) rfl ?_)
            refine s_nil ?_
            refine t_norm (hK136 _ _ ?_)
            refine wp_seq_k fun K140 hK140 => ?_
            refine wp_seq_k fun K141 hK141 => ?_
            refine c_region ?_
            refine s_op (o_move (v := (.pointer (some ⟨qb, 0, none⟩))) e19_2 ?_)
            refine s_op (o_nilCheck rfl ?_)
            refine s_op (o_fieldAddr (k := 0) (fun _ => by kernel_rfl) rfl ?_)
            refine s_op (o_load1 (v := (.bool q.off)) Try.underlying4 rfl rfl hH138 (seg_sub 7 rfl) (CellsAt.one rfl) ?_)
            refine s_nil ?_
            refine t_norm (hK141 _ _ ?_)
            refine c_condb rfl (fun h142 => ?_) (fun h142 => ?_)
            · -- q.off
              refine wp_seq_k fun K143 hK143 => ?_
              refine c_region ?_
              refine s_op (o_move (v := (S (readS p la lo n))) rfl ?_)
              refine s_op (o_seql (a := (readS p la lo n)) (b := ([] : List UInt8)) rfl rfl ?_)
              refine s_op (o_move (v := (.bool (decide ((readS p la lo n) = ([] : List UInt8))))) rfl ?_)
              by_cases h144 : (readS p la lo n) = ([] : List UInt8)
              · -- (readS p la lo n) = ([] : List UInt8)
                refine s_on 152 rfl (congrArg Value.bool (decide_eq_true h144)) (o_move (v := (.int .i64 (readE p la n))) rfl ?_)
                refine s_on 152 rfl (congrArg Value.bool (decide_eq_true h144)) (o_eql (a := readE p la n) (b := 6) rfl rfl ?_)
                refine s_op (o_pick_t (u := (.bool (decide (readE p la n = 6)))) ((rfl : _ = _).trans (congrArg Value.bool (decide_eq_true h144))) rfl ?_)
                refine s_op (o_assign (v := (.bool (decide (readE p la n = 6)))) rfl ?_)
                refine s_nil ?_
                refine t_norm (hK143 _ _ ?_)
                refine wp_ret ?_
                refine t_ret (b_ret (t_ret (c_ret1 Try.results55  (v := (.bool (decide (readE p la n = 6)))) rfl ?_)))
                have hH145 : Has E w139 [sg, [Hp.one pb (.cells #[(.bool p.off), (.bool p.armed), (.int .i64 p.left), (.int .i64 p.uses)] 101 (0, 0))], h1, h2, h3, [Hp.one qm (.cells #[v1, v2, v3] 189 (0, 0))], [Hp.one qb (.cells #[(.bool q.off), (.bool q.armed), (.int .i64 q.left), (.int .i64 q.uses)] 112 (0, 0))], R] := Has.pick hH138 [0, 0, 1, 1, 1, 1, 1, 1] (by kernel_rfl)
                exact ⟨_, _, _, p, _, _, _, _, _, _, _, _, _, by rw [decide_eq_true (show _ = _ from (hsim.read_off (n := n) hpr h142).2)], hd, rfl, hsim, hpr.mono (by omega), ho1, ho2, ho3, hH145⟩
              · -- not: (readS p la lo n) = ([] : List UInt8)
                exact absurd (hsim.read_off (n := n) hpr h142).1 h144
            · -- not: q.off
              refine wp_skip ?_
              refine t_norm (hK140 _ _ ?_)
              refine wp_seq_k fun K146 hK146 => ?_
              refine wp_seq_k fun K147 hK147 => ?_
              refine c_region ?_
              refine s_op (o_move (v := (.bool (decide (n < ((nw.length : Nat) : Int))))) e19_10 ?_)
              refine s_op (o_not2 (b := decide (n < ((nw.length : Nat) : Int))) (b' := decide (¬ (n < ((nw.length : Nat) : Int)))) rfl not_dec ?_)
              refine s_nil ?_
              refine t_norm (hK147 _ _ ?_)
              refine c_cond rfl (fun h148 => ?_) (fun h148 => ?_)
              · -- ¬ (n < ((nw.length : Nat) : Int))
                refine wp_seq_k fun K149 hK149 => ?_
                refine c_region ?_
                refine s_op (o_move (v := (S (readS p la lo n))) rfl ?_)
                refine s_op (o_seql (a := (readS p la lo n)) (b := ([] : List UInt8)) rfl rfl ?_)
                refine s_op (o_move (v := (.bool (decide ((readS p la lo n) = ([] : List UInt8))))) rfl ?_)
                by_cases h150 : (readS p la lo n) = ([] : List UInt8)
                · -- (readS p la lo n) = ([] : List UInt8)
                  refine s_on 160 rfl (congrArg Value.bool (decide_eq_true h150)) (o_move (v := (.int .i64 (readE p la n))) rfl ?_)
                  refine s_on 160 rfl (congrArg Value.bool (decide_eq_true h150)) (o_eql (a := readE p la n) (b := 1) rfl rfl ?_)
                  refine s_op (o_pick_t (u := (.bool (decide (readE p la n = 1)))) ((rfl : _ = _).trans (congrArg Value.bool (decide_eq_true h150))) rfl ?_)
                  refine s_op (o_assign (v := (.bool (decide (readE p la n = 1)))) rfl ?_)
                  refine s_nil ?_
                  refine t_norm (hK149 _ _ ?_)
                  refine wp_ret ?_
                  refine t_ret (b_ret (t_ret (c_ret1 Try.results55  (v := (.bool (decide (readE p la n = 1)))) rfl ?_)))
                  have hH151 : Has E w139 [sg, [Hp.one pb (.cells #[(.bool p.off), (.bool p.armed), (.int .i64 p.left), (.int .i64 p.uses)] 101 (0, 0))], h1, h2, h3, [Hp.one qm (.cells #[v1, v2, v3] 189 (0, 0))], [Hp.one qb (.cells #[(.bool q.off), (.bool q.armed), (.int .i64 q.left), (.int .i64 q.uses)] 112 (0, 0))], R] := Has.pick hH138 [0, 0, 1, 1, 1, 1, 1, 1] (by kernel_rfl)
                  exact ⟨_, _, _, p, _, _, _, _, _, _, _, _, _, by rw [decide_eq_true (show _ = _ from (hsim.read_bad (n := n) hpr h142 (fun g => by have g1 := g.1; have g2 := g.2; omega)).2)], hd, rfl, hsim, hpr.mono (by omega), ho1, ho2, ho3, hH151⟩
                · -- not: (readS p la lo n) = ([] : List UInt8)
                  exact absurd (hsim.read_bad (n := n) hpr h142 (fun g => by have g1 := g.1; have g2 := g.2; omega)).1 h150
              · -- not: ¬ (n < ((nw.length : Nat) : Int))
                refine wp_skip ?_
                refine t_norm (hK146 _ _ ?_)
                refine wp_seq_k fun K152 hK152 => ?_
                obtain ⟨x156, hx157⟩ : ∃ x_, nw[(n).toNat]? = some x_ := get_some (by first | omega | (rw [List.length_set]; omega))
                by_cases h158 : (readS p la lo n) = x156
                · -- (readS p la lo n) = x156
                  refine c_flow3 [sg, [Hp.one pb (.cells #[(.bool p.off), (.bool p.armed), (.int .i64 p.left), (.int .i64 p.uses)] 101 (0, 0))], [Hp.one b2 (.cells #[(.int .i64 kd), (.int .i64 n), (.bool ot), dv, kv] 104 (0, 0))], h1, h2, h3, [Hp.one qm (.cells #[v1, v2, v3] 189 (0, 0))], [Hp.one qb (.cells #[(.bool q.off), (.bool q.armed), (.int .i64 q.left), (.int .i64 q.uses)] 112 (0, 0))], R] (fun i_ => match i_ with | _ => []) (fun i_ v_ h_ m_ => match i_ with | 0 => v_ = (S (readS p la lo n)) ∧ h_ = [] | 1 => v_ = (.pointer (some ⟨qm, 0, none⟩)) ∧ h_ = [] | 2 => v_ = (.pointer (some ⟨qm, 0, none⟩)) ∧ h_ = [] | 3 => v_ = (.pointer (some ⟨qm, 1, none⟩)) ∧ h_ = [] | 4 => v_ = v2 ∧ h_ = [] | 5 => v_ = (.pointer (some ⟨b2, 1, none⟩)) ∧ h_ = [] | 6 => v_ = (.int .i64 n) ∧ h_ = [] | 7 => ∃ (b159 : Nat) (o160 : Nat), v_ = (.pointer (some ⟨b159, o160, none⟩)) ∧ h_ = [] ∧ (CellsAt h2 b159 o160 [(S x156)]) | 8 => v_ = (S x156) ∧ h_ = [] | 9 => v_ = (.bool (decide ((readS p la lo n) = x156))) ∧ h_ = [] | 10 => v_ = (.bool (decide ((readS p la lo n) = x156))) ∧ h_ = [] | 11 => v_ = (.int .i64 (readE p la n)) ∧ h_ = [] | 12 => v_ = (.bool (decide (readE p la n = 0))) ∧ h_ = [] | 13 => v_ = (.bool (decide (readE p la n = 0))) ∧ h_ = [] | 14 => v_ = (.bool (decide (readE p la n = 0))) ∧ h_ = [] | _ => True) mixed (by kernel_rfl) (flow_has (cs := []) hH138 rfl) ?_ ?_
                  · intro i_ o_ ho_ r' w' G hs_ ht
                    match i_, ho_ with
                    | 0, ho_ =>
                      obtain rfl := Option.some.inj ho_
                      have e13 : r' 13 = (S (readS p la lo n)) := ht.was 13 (by kernel_rfl)
                      have hG := ht.has.drop
                      refine GOK.free rfl ?_
                      refine o_move (v := (S (readS p la lo n))) e13 ?_
                      exact ⟨_, ⟨rfl, rfl⟩, hG⟩
                    | 1, ho_ =>
                      obtain rfl := Option.some.inj ho_
                      have e1 : r' 1 = (.pointer (some ⟨qm, 0, none⟩)) := (ht.was 1 (by kernel_rfl)).trans e19_1
                      have hG := ht.has.drop
                      refine GOK.free rfl ?_
                      refine o_move (v := (.pointer (some ⟨qm, 0, none⟩))) e1 ?_
                      exact ⟨_, ⟨rfl, rfl⟩, hG⟩
                    | 2, ho_ =>
                      obtain rfl := Option.some.inj ho_
                      obtain ⟨e165, eh1⟩ := (ht.done 1 _ rfl rfl).1
                      have hG := ht.has.drop
                      refine GOK.free rfl ?_
                      refine o_nilCheck e165 ?_
                      exact ⟨_, ⟨rfl, rfl⟩, hG⟩
                    | 3, ho_ =>
                      obtain rfl := Option.some.inj ho_
                      obtain ⟨e166, eh2⟩ := (ht.done 2 _ rfl rfl).1
                      have hG := ht.has.drop
                      refine GOK.free rfl ?_
                      refine o_fieldAddr (k := 1) (fun _ => by kernel_rfl) e166 ?_
                      exact ⟨_, ⟨rfl, rfl⟩, hG⟩
                    | 4, ho_ =>
                      obtain rfl := Option.some.inj ho_
                      obtain ⟨e167, eh3⟩ := (ht.done 3 _ rfl rfl).1
                      have hG := ht.has.drop
                      refine GOK.free rfl ?_
                      refine o_load1 (v := v2) Try.underlying53 rfl e167 hG (ht.fr [Hp.one qm (.cells #[v1, v2, v3] 189 (0, 0))] (by simp)) (CellsAt.one rfl) ?_
                      exact ⟨_, ⟨rfl, rfl⟩, hG⟩
                    | 5, ho_ =>
                      obtain rfl := Option.some.inj ho_
                      have e7 : r' 7 = (.pointer (some ⟨b2, 0, none⟩)) := (ht.was 7 (by kernel_rfl)).trans e19_7
                      have hG := ht.has.drop
                      refine GOK.free rfl ?_
                      refine o_fieldAddr (k := 1) (fun _ => by kernel_rfl) e7 ?_
                      exact ⟨_, ⟨rfl, rfl⟩, hG⟩
                    | 6, ho_ =>
                      obtain rfl := Option.some.inj ho_
                      obtain ⟨e169, eh5⟩ := (ht.done 5 _ rfl rfl).1
                      have hG := ht.has.drop
                      refine GOK.free rfl ?_
                      refine o_load1 (v := (.int .i64 n)) Try.underlying3 rfl e169 hG (ht.fr [Hp.one b2 (.cells #[(.int .i64 kd), (.int .i64 n), (.bool ot), dv, kv] 104 (0, 0))] (by simp)) (CellsAt.one rfl) ?_
                      exact ⟨_, ⟨rfl, rfl⟩, hG⟩
                    | 7, ho_ =>
                      obtain rfl := Option.some.inj ho_
                      obtain ⟨e168, eh4⟩ := (ht.done 4 _ rfl rfl).1
                      obtain ⟨e170, eh6⟩ := (ht.done 6 _ rfl rfl).1
                      have hG := ht.has.drop
                      refine GOK.free rfl ?_
                      refine o_index1 Try.underlying53 ti9 e168 ho2.sl e170 (by omega) hx157 fun b159 o160 hc161 => ?_
                      exact ⟨_, ⟨b159, o160, rfl, rfl, hc161⟩, hG⟩
                    | 8, ho_ =>
                      obtain rfl := Option.some.inj ho_
                      obtain ⟨b159, o160, e171, eh7, hc161⟩ := (ht.done 7 _ rfl rfl).1
                      have hG := ht.has.drop
                      refine GOK.free rfl ?_
                      refine o_load1 (v := (S x156)) Try.underlying9 rfl e171 hG (ht.fr h2 (by simp)) hc161 ?_
                      exact ⟨_, ⟨rfl, rfl⟩, hG⟩
                    | 9, ho_ =>
                      obtain rfl := Option.some.inj ho_
                      obtain ⟨e164, eh0⟩ := (ht.done 0 _ rfl rfl).1
                      obtain ⟨b159, o160, e171, eh7, hc161⟩ := (ht.done 7 _ rfl rfl).1
                      obtain ⟨e172, eh8⟩ := (ht.done 8 _ rfl rfl).1
                      have hG := ht.has.drop
                      refine GOK.free rfl ?_
                      refine o_seql (a := (readS p la lo n)) (b := x156) e164 e172 ?_
                      exact ⟨_, ⟨rfl, rfl⟩, hG⟩
                    | 10, ho_ =>
                      obtain rfl := Option.some.inj ho_
                      obtain ⟨b159, o160, e171, eh7, hc161⟩ := (ht.done 7 _ rfl rfl).1
                      obtain ⟨e173, eh9⟩ := (ht.done 9 _ rfl rfl).1
                      have hG := ht.has.drop
                      refine GOK.free rfl ?_
                      refine o_move (v := (.bool (decide ((readS p la lo n) = x156)))) e173 ?_
                      exact ⟨_, ⟨rfl, rfl⟩, hG⟩
                    | 11, ho_ =>
                      obtain rfl := Option.some.inj ho_
                      obtain ⟨b159, o160, e171, eh7, hc161⟩ := (ht.done 7 _ rfl rfl).1
                      obtain ⟨e174, eh10⟩ := (ht.done 10 _ rfl rfl).1
                      have e14 : r' 14 = (.int .i64 (readE p la n)) := ht.was 14 (by kernel_rfl)
                      have hG := ht.has.drop
                      refine GOK.on rfl rfl (Eq.trans e174 (congrArg Value.bool (decide_eq_true h158))) ?_
                      refine o_move (v := (.int .i64 (readE p la n))) e14 ?_
                      exact ⟨_, ⟨rfl, rfl⟩, hG⟩
                    | 12, ho_ =>
                      obtain rfl := Option.some.inj ho_
                      obtain ⟨b159, o160, e171, eh7, hc161⟩ := (ht.done 7 _ rfl rfl).1
                      obtain ⟨e174, eh10⟩ := (ht.done 10 _ rfl rfl).1
                      obtain ⟨e175, eh11⟩ := (ht.done 11 _ rfl rfl).1
                      have hG := ht.has.drop
                      refine GOK.on rfl rfl (Eq.trans e174 (congrArg Value.bool (decide_eq_true h158))) ?_
                      refine o_eql (a := readE p la n) (b := 0) e175 rfl ?_
                      exact ⟨_, ⟨rfl, rfl⟩, hG⟩
                    | 13, ho_ =>
                      obtain rfl := Option.some.inj ho_
                      obtain ⟨b159, o160, e171, eh7, hc161⟩ := (ht.done 7 _ rfl rfl).1
                      obtain ⟨e174, eh10⟩ := (ht.done 10 _ rfl rfl).1
                      obtain ⟨e176, eh12⟩ := (ht.done 12 _ rfl rfl).1
                      have hG := ht.has.drop
                      refine GOK.free rfl ?_
                      refine o_pick_t (u := (.bool (decide (readE p la n = 0)))) ((e174 : _ = _).trans (congrArg Value.bool (decide_eq_true h158))) e176 ?_
                      exact ⟨_, ⟨rfl, rfl⟩, hG⟩
                    | 14, ho_ =>
                      obtain rfl := Option.some.inj ho_
                      obtain ⟨b159, o160, e171, eh7, hc161⟩ := (ht.done 7 _ rfl rfl).1
                      obtain ⟨e177, eh13⟩ := (ht.done 13 _ rfl rfl).1
                      have hG := ht.has.drop
                      refine GOK.free rfl ?_
                      refine o_assign (v := (.bool (decide (readE p la n = 0)))) e177 ?_
                      exact ⟨_, ⟨rfl, rfl⟩, hG⟩
                    | i_ + 15, ho_ => exact absurd ho_ (by simp)
                  · intro vs162 hs163 w164 hT165 hH166
                    obtain ⟨e0_, eh0_⟩ := hT165 0 _ rfl
                    obtain ⟨e1_, eh1_⟩ := hT165 1 _ rfl
                    obtain ⟨e2_, eh2_⟩ := hT165 2 _ rfl
                    obtain ⟨e3_, eh3_⟩ := hT165 3 _ rfl
                    obtain ⟨e4_, eh4_⟩ := hT165 4 _ rfl
                    obtain ⟨e5_, eh5_⟩ := hT165 5 _ rfl
                    obtain ⟨e6_, eh6_⟩ := hT165 6 _ rfl
                    obtain ⟨b159, o160, e7_, eh7_, hc161⟩ := hT165 7 _ rfl
                    obtain ⟨e8_, eh8_⟩ := hT165 8 _ rfl
                    obtain ⟨e9_, eh9_⟩ := hT165 9 _ rfl
                    obtain ⟨e10_, eh10_⟩ := hT165 10 _ rfl
                    obtain ⟨e11_, eh11_⟩ := hT165 11 _ rfl
                    obtain ⟨e12_, eh12_⟩ := hT165 12 _ rfl
                    obtain ⟨e13_, eh13_⟩ := hT165 13 _ rfl
                    obtain ⟨e14_, eh14_⟩ := hT165 14 _ rfl
                    have hH167 : Has E w164 ([sg, [Hp.one pb (.cells #[(.bool p.off), (.bool p.armed), (.int .i64 p.left), (.int .i64 p.uses)] 101 (0, 0))], [Hp.one b2 (.cells #[(.int .i64 kd), (.int .i64 n), (.bool ot), dv, kv] 104 (0, 0))], h1, h2, h3, [Hp.one qm (.cells #[v1, v2, v3] 189 (0, 0))], [Hp.one qb (.cells #[(.bool q.off), (.bool q.armed), (.int .i64 q.left), (.int .i64 q.uses)] 112 (0, 0))], R] ++ []) := flow_back (cs := []) hH166 (by show (hs163 0 ++ (hs163 1 ++ (hs163 2 ++ (hs163 3 ++ (hs163 4 ++ (hs163 5 ++ (hs163 6 ++ (hs163 7 ++ (hs163 8 ++ (hs163 9 ++ (hs163 10 ++ (hs163 11 ++ (hs163 12 ++ (hs163 13 ++ (hs163 14 ++ []))))))))))))))) = _; rw [eh0_, eh1_, eh2_, eh3_, eh4_, eh5_, eh6_, eh7_, eh8_, eh9_, eh10_, eh11_, eh12_, eh13_, eh14_]; rfl)
                    generalize hr169 : puts vs162 _ 0 _ = r168
                    have e170_0 : r168 0 = (.pointer (some ⟨db, 0, none⟩)) := by rw [← hr169]; exact e19_0
                    have e170_1 : r168 1 = (.pointer (some ⟨qm, 0, none⟩)) := by rw [← hr169]; exact e19_1
                    have e170_2 : r168 2 = (.pointer (some ⟨qb, 0, none⟩)) := by rw [← hr169]; exact e19_2
                    have e170_3 : r168 3 = (.agg #[(.int .i64 kd), (.int .i64 n), (.bool ot), dv, kv]) := by rw [← hr169]; exact e19_3
                    have e170_7 : r168 7 = (.pointer (some ⟨b2, 0, none⟩)) := by rw [← hr169]; exact e19_7
                    have e170_8 : r168 8 = (.bool (decide (readE p la n = 0))) := by rw [← hr169]; exact e14_
                    have e170_9 : r168 9 = (S da.flatten) := by rw [← hr169]; exact e19_9
                    have e170_10 : r168 10 = (.bool (decide (n < ((nw.length : Nat) : Int)))) := by rw [← hr169]; exact e19_10
                    have e170_13 : r168 13 = (S (readS p la lo n)) := by rw [← hr169]; exact rfl
                    have e170_14 : r168 14 = (.int .i64 (readE p la n)) := by rw [← hr169]; exact rfl
                    have e170_34 : r168 34 = (.int .i64 kd) := by rw [← hr169]; exact rfl
                    have e170_77 : r168 77 = (.bool (decide (kd = 0))) := by rw [← hr169]; exact rfl
                    have e170_116 : r168 116 = (.bool (decide (kd = 1))) := by rw [← hr169]; exact rfl
                    have e170_137 : r168 137 = (.bool (decide (kd = 2))) := by rw [← hr169]; exact rfl
                    have e170_149 : r168 149 = (.bool q.off) := by rw [← hr169]; exact rfl
                    have e170_157 : r168 157 = (.bool (decide (¬ (n < ((nw.length : Nat) : Int))))) := by rw [← hr169]; exact rfl
                    refine t_norm (hK152 _ _ ?_)
                    refine wp_ret ?_
                    refine b_ret (t_ret (c_ret1 Try.results55  (v := (.bool (decide (readE p la n = 0)))) e170_8 ?_))
                    have hH171 : Has E w164 [sg, [Hp.one pb (.cells #[(.bool p.off), (.bool p.armed), (.int .i64 p.left), (.int .i64 p.uses)] 101 (0, 0))], h1, h2, h3, [Hp.one qm (.cells #[v1, v2, v3] 189 (0, 0))], [Hp.one qb (.cells #[(.bool q.off), (.bool q.armed), (.int .i64 q.left), (.int .i64 q.uses)] 112 (0, 0))], R] := Has.pick hH167 [0, 0, 1, 1, 1, 1, 1, 1] (by kernel_rfl)
                    exact ⟨_, _, _, p, _, _, _, _, _, _, _, _, _, by rw [decide_eq_true (show _ = _ from (hsim.read_ok (n := n) hpr h142 (show inS n la.length from ⟨by omega, by omega⟩) (show nw[n.toNat]? = some _ from hx157)).2)], hd, rfl, hsim, hpr.mono (by omega), ho1, ho2, ho3, hH171⟩
                · -- not: (readS p la lo n) = x156
                  exact absurd (hsim.read_ok (n := n) hpr h142 (show inS n la.length from ⟨by omega, by omega⟩) (show nw[n.toNat]? = some _ from hx157)).1 h158
          · -- not: kd = 2
            refine wp_seq_k fun K172 hK172 => ?_
            refine c_region ?_
            refine s_op (o_eql (a := kd) (b := 3) rfl rfl ?_)
            refine s_op (o_assign (v := (.bool (decide (kd = 3)))) rfl ?_)
            refine s_nil ?_
            refine t_norm (hK172 _ _ ?_)
            refine c_cond rfl (fun h173 => ?_) (fun h173 => ?_)
            · -- kd = 3
              refine wp_seq_k fun K174 hK174 => ?_
              refine c_region ?_
              refine s_op (o_move (v := (.pointer (some ⟨db, 0, none⟩))) e19_0 ?_)
              refine s_op (o_fieldAddr (k := 1) (fun _ => by kernel_rfl) e19_7 ?_)
              refine s_op (o_load1 (v := (.int .i64 n)) Try.underlying3 rfl rfl hH16 (seg_sub 0 rfl) (CellsAt.one rfl) ?_)
              refine s_op (o_callf (vs := #[(.pointer (some ⟨db, 0, none⟩)), (.int .i64 n)]) ca60 rfl (args2 rfl rfl) (darm_d (p := p) (la := la) (lo := lo) ((hH16.front 2 rfl).front 2 rfl).all2 hd n) ?_)
              rintro _ w177 ⟨rfl, hX175⟩
              refine ⟨_, rfl, ?_⟩
              have hH176 : Has E w177 [sg, [Hp.one pb (.cells #[(.bool (armS p n).off), (.bool (armS p n).armed), (.int .i64 (armS p n).left), (.int .i64 (armS p n).uses)] 101 (0, 0))], [Hp.one b2 (.cells #[(.int .i64 kd), (.int .i64 n), (.bool ot), dv, kv] 104 (0, 0))], h1, h2, h3, [Hp.one qm (.cells #[v1, v2, v3] 189 (0, 0))], [Hp.one qb (.cells #[(.bool q.off), (.bool q.armed), (.int .i64 q.left), (.int .i64 q.uses)] 112 (0, 0))], R] := hX175.of_all2
              refine s_nil ?_
              refine t_norm (hK174 _ _ ?_)
              refine wp_seq_k fun K178 hK178 => ?_
              refine c_region ?_
              refine s_op (o_move (v := (.pointer (some ⟨qb, 0, none⟩))) e19_2 ?_)
              refine s_op (o_nilCheck rfl ?_)
              refine s_op (o_fieldAddr (k := 1) (fun _ => by kernel_rfl) rfl ?_)
              refine s_eff (o_store1 (c' := #[(.bool q.off), (.bool true), (.int .i64 q.left), (.int .i64 q.uses)]) ti4 rfl rfl rfl (by simp) rfl (hH176.front 7 rfl) fun w179 hH180 => ?_)
              refine s_nil ?_
              refine t_norm (hK178 _ _ ?_)
              refine c_region ?_
              refine s_op (o_move (v := (.pointer (some ⟨qb, 0, none⟩))) e19_2 ?_)
              refine s_op (o_fieldAddr (k := 1) (fun _ => by kernel_rfl) e19_7 ?_)
              refine s_op (o_load1 (v := (.int .i64 n)) Try.underlying3 rfl rfl hH180 (seg_sub 3 rfl) (CellsAt.one rfl) ?_)
              refine s_op (o_max (a := n) (b := 0) rfl rfl ?_)
              refine s_op (o_nilCheck rfl ?_)
              refine s_op (o_fieldAddr (k := 2) (fun _ => by kernel_rfl) rfl ?_)
              refine s_eff (o_store1 (c' := #[(.bool q.off), (.bool true), (.int .i64 (max n 0)), (.int .i64 q.uses)]) ti3 rfl rfl rfl (by simp) rfl (hH180.front 0 rfl) fun w181 hH182 => ?_)
              refine s_nil ?_
              refine b_norm ?_
              refine t_norm (hK20 _ _ ?_)
              refine wp_seq_k fun K183 hK183 => ?_
              refine c_region ?_
              refine s_op (o_assign (v := (.bool true)) rfl ?_)
              refine s_nil ?_
              refine t_norm (hK183 _ _ ?_)
              refine wp_ret ?_
              refine c_ret1 Try.results55  (v := (.bool true)) rfl ?_
              have hH184 : Has E w181 [sg, [Hp.one pb (.cells #[(.bool (armS p n).off), (.bool (armS p n).armed), (.int .i64 (armS p n).left), (.int .i64 (armS p n).uses)] 101 (0, 0))], h1, h2, h3, [Hp.one qm (.cells #[v1, v2, v3] 189 (0, 0))], [Hp.one qb (.cells #[(.bool q.off), (.bool true), (.int .i64 (max n 0)), (.int .i64 q.uses)] 112 (0, 0))], R] := Has.pick hH182 [1, 1, 2, 2, 2, 2, 0, 1] (by kernel_rfl)
              exact ⟨_, _, _, (armS p n), _, _, _, _, _, _, _, _, _, rfl, hd, rfl, hsim, (hpr.arm' hnb).mono (by omega), ho1, ho2, ho3, hH184⟩
            · -- not: kd = 3
              refine wp_seq_k fun K185 hK185 => ?_
              refine c_region ?_
              refine s_op (o_eql (a := kd) (b := 4) rfl rfl ?_)
              refine s_op (o_assign (v := (.bool (decide (kd = 4)))) rfl ?_)
              refine s_nil ?_
              refine t_norm (hK185 _ _ ?_)
              refine c_cond rfl (fun h186 => ?_) (fun h186 => ?_)
              · -- kd = 4
                refine wp_seq_k fun K187 hK187 => ?_
                refine c_region ?_
                refine s_op (o_move (v := (.pointer (some ⟨db, 0, none⟩))) e19_0 ?_)
                refine s_op (o_fieldAddr (k := 4) (fun _ => by kernel_rfl) e19_7 ?_)
                refine s_op (o_load1 (v := kv) Try.underlying54 rfl rfl hH16 (seg_sub 0 rfl) (CellsAt.one rfl) ?_)
                refine s_op (o_callf (vs := #[(.pointer (some ⟨db, 0, none⟩)), kv]) ca32 rfl (args2 rfl rfl) (crash_d (p := p) (la := la) (lo := lo) ((hH16.front 2 rfl).front 2 rfl).all2 hd hsim.ok (keep := ke) (hm.2.1.mono (seg_sub 6 rfl))) ?_)
                rintro _ w192 ⟨sg188, rfl, hd189, hX190⟩
                refine ⟨_, rfl, ?_⟩
                have hH191 : Has E w192 [sg188, [Hp.one pb (.cells #[(.bool (backS p).off), (.bool (backS p).armed), (.int .i64 (backS p).left), (.int .i64 (backS p).uses)] 101 (0, 0))], [Hp.one b2 (.cells #[(.int .i64 kd), (.int .i64 n), (.bool ot), dv, kv] 104 (0, 0))], h1, h2, h3, [Hp.one qm (.cells #[v1, v2, v3] 189 (0, 0))], [Hp.one qb (.cells #[(.bool q.off), (.bool q.armed), (.int .i64 q.left), (.int .i64 q.uses)] 112 (0, 0))], R] := hX190.of_all2
                refine s_nil ?_
                refine t_norm (hK187 _ _ ?_)
                refine wp_seq_k fun K193 hK193 => ?_
                refine c_region ?_
                refine s_op (o_move (v := (.pointer (some ⟨qb, 0, none⟩))) e19_2 ?_)
                refine s_op (o_nilCheck rfl ?_)
                refine s_op (o_fieldAddr (k := 0) (fun _ => by kernel_rfl) rfl ?_)
                refine s_eff (o_store1 (c' := #[(.bool false), (.bool q.armed), (.int .i64 q.left), (.int .i64 q.uses)]) ti4 rfl rfl rfl (by simp) rfl (hH191.front 7 rfl) fun w194 hH195 => ?_)
                refine s_nil ?_
                refine t_norm (hK193 _ _ ?_)
                refine wp_seq_k fun K196 hK196 => ?_
                refine c_region ?_
                refine s_op (o_move (v := (.pointer (some ⟨qb, 0, none⟩))) e19_2 ?_)
                refine s_op (o_nilCheck rfl ?_)
                refine s_op (o_fieldAddr (k := 1) (fun _ => by kernel_rfl) rfl ?_)
                refine s_eff (o_store1 (c' := #[(.bool false), (.bool false), (.int .i64 q.left), (.int .i64 q.uses)]) ti4 rfl rfl rfl (by simp) rfl (hH195.front 0 rfl) fun w197 hH198 => ?_)
                refine s_nil ?_
                refine t_norm (hK196 _ _ ?_)
                refine wp_seq_k fun K199 hK199 => ?_
                refine wp_seq_k fun K200 hK200 => ?_
                refine c_region ?_
                refine s_op (o_assign (v := (.int .i64 0)) rfl ?_)
                refine s_nil ?_
                refine t_norm (hK200 _ _ ?_)
                refine wp_block ?_
                let I202 : Nat → (Nat → Value) → World → Prop := fun n__ r__ w__ => ∃ (j : Nat) (hA : List Hp) (hN : List Hp), n__ = la.length - j ∧ Has E w__ [hA, hN, [Hp.one qm (.cells #[v1, v2, v3] 189 (0, 0))], [Hp.one qb (.cells #[(.bool false), (.bool false), (.int .i64 q.left), (.int .i64 q.uses)] 112 (0, 0))], sg188, [Hp.one pb (.cells #[(.bool (backS p).off), (.bool (backS p).armed), (.int .i64 (backS p).left), (.int .i64 (backS p).uses)] 101 (0, 0))], [Hp.one b2 (.cells #[(.int .i64 kd), (.int .i64 n), (.bool ot), dv, kv] 104 (0, 0))], h3, R] ∧ (j ≤ la.length) ∧ (Own 9 1 v1 (crAS la nw ke j).length ((crAS la nw ke j).map sV) hA) ∧ (Own 9 1 v2 (crNS la nw ke j).length ((crNS la nw ke j).map sV) hN) ∧ r__ 0 = (.pointer (some ⟨db, 0, none⟩)) ∧ r__ 1 = (.pointer (some ⟨qm, 0, none⟩)) ∧ r__ 2 = (.pointer (some ⟨qb, 0, none⟩)) ∧ r__ 3 = (.agg #[(.int .i64 kd), (.int .i64 n), (.bool ot), dv, kv]) ∧ r__ 7 = (.pointer (some ⟨b2, 0, none⟩)) ∧ r__ 8 = (.bool false) ∧ r__ 9 = (S da.flatten) ∧ r__ 10 = (.bool (decide (n < ((nw.length : Nat) : Int)))) ∧ r__ 15 = (.int .i64 (j : Int)) ∧ r__ 34 = (.int .i64 kd) ∧ r__ 77 = (.bool (decide (kd = 0))) ∧ r__ 116 = (.bool (decide (kd = 1))) ∧ r__ 137 = (.bool (decide (kd = 2))) ∧ r__ 178 = (.bool (decide (kd = 3))) ∧ r__ 193 = (.bool (decide (kd = 4)))
                have hH203 : Has E w197 [h1, h2, [Hp.one qm (.cells #[v1, v2, v3] 189 (0, 0))], [Hp.one qb (.cells #[(.bool false), (.bool false), (.int .i64 q.left), (.int .i64 q.uses)] 112 (0, 0))], sg188, [Hp.one pb (.cells #[(.bool (backS p).off), (.bool (backS p).armed), (.int .i64 (backS p).left), (.int .i64 (backS p).uses)] 101 (0, 0))], [Hp.one b2 (.cells #[(.int .i64 kd), (.int .i64 n), (.bool ot), dv, kv] 104 (0, 0))], h3, R] := Has.pick hH198 [4, 4, 5, 0, 0, 0, 0, 0, 0] (by kernel_rfl)
                refine c_loop I202 _ ⟨0, h1, h2, rfl, hH203, Nat.zero_le _, (by rw [crA_zero]; exact ho1), (by rw [crN_zero hsim.len]; exact ho2), e19_0, e19_1, e19_2, e19_3, e19_7, e19_8, e19_9, e19_10, rfl, rfl, rfl, rfl, rfl, rfl, rfl⟩ ?_
                rintro n_ r206 w204 ⟨j, hA, hN, rfl, hH205, hj, hc1, hc2, e201_0, e201_1, e201_2, e201_3, e201_7, e201_8, e201_9, e201_10, e201_15, e201_34, e201_77, e201_116, e201_137, e201_178, e201_193⟩
                have hcl_ := cr_len la nw ke j
                refine wp_seq_k fun K207 hK207 => ?_
                refine wp_seq_k fun K208 hK208 => ?_
                refine c_region ?_
                refine s_op (o_move (v := (.int .i64 (j : Int))) e201_15 ?_)
                refine s_op (o_move (v := (.pointer (some ⟨qm, 0, none⟩))) e201_1 ?_)
                refine s_op (o_nilCheck rfl ?_)
                refine s_op (o_fieldAddr (k := 1) (fun _ => by kernel_rfl) rfl ?_)
                refine s_op (o_load1 (v := v2) Try.underlying53 rfl rfl hH205 (seg_sub 2 rfl) (CellsAt.one rfl) ?_)
                refine s_op (o_lenS Try.underlying53 rfl hc2.sl ?_)
                refine s_op (o_lss (a := (j : Int)) (b := (((crNS la nw ke j).length : Nat) : Int)) rfl rfl ?_)
                refine s_nil ?_
                refine t_norm (hK208 _ _ ?_)
                refine c_cond rfl (fun h209 => ?_) (fun h209 => ?_)
                · -- (j : Int) < (((crNS la nw ke j).length : Nat) : Int)
                  refine wp_skip ?_
                  refine t_norm (hK207 _ _ ?_)
                  refine wp_seq_k fun K210 hK210 => ?_
                  refine wp_block ?_
                  refine wp_seq_k fun K211 hK211 => ?_
                  refine wp_seq_k fun K212 hK212 => ?_
                  refine c_region ?_
                  refine s_op (o_fieldAddr (k := 4) (fun _ => by kernel_rfl) e201_7 ?_)
                  refine s_op (o_load1 (v := kv) Try.underlying54 rfl rfl hH205 (seg_sub 6 rfl) (CellsAt.one rfl) ?_)
                  refine s_op (o_move (v := (.int .i64 (j : Int))) e201_15 ?_)
                  refine s_op (o_callf (vs := #[kv, (.int .i64 (j : Int))]) ca34 rfl (args2 rfl rfl) (refhas_c hH205.all (l := ke) (hm.2.1.mono (seg_sub 8 rfl)) (j : Int)) ?_)
                  rintro _ w215 ⟨rfl, hX213⟩
                  refine ⟨_, rfl, ?_⟩
                  have hH214 := hX213.of_all
                  refine s_nil ?_
                  refine t_norm (hK212 _ _ ?_)
                  refine c_cond rfl (fun h216 => ?_) (fun h216 => ?_)
                  · -- (j : Int) ∈ ke
                    obtain ⟨x220, hx221⟩ : ∃ x_, (crNS la nw ke j)[((j : Int)).toNat]? = some x_ := get_some (by first | omega | (rw [List.length_set]; omega))
                    have hH228 : Has E w215 [hN, [Hp.one qm (.cells #[v1, v2, v3] 189 (0, 0))], [Hp.one qb (.cells #[(.bool false), (.bool false), (.int .i64 q.left), (.int .i64 q.uses)] 112 (0, 0))], sg188, [Hp.one pb (.cells #[(.bool (backS p).off), (.bool (backS p).armed), (.int .i64 (backS p).left), (.int .i64 (backS p).uses)] 101 (0, 0))], [Hp.one b2 (.cells #[(.int .i64 kd), (.int .i64 n), (.bool ot), dv, kv] 104 (0, 0))], h3, R, hA] := Has.pick hH214 [1, 1, 1, 1, 1, 1, 1, 1, 0] (by kernel_rfl)
                    refine c_flow [hN, [Hp.one qm (.cells #[v1, v2, v3] 189 (0, 0))], [Hp.one qb (.cells #[(.bool false), (.bool false), (.int .i64 q.left), (.int .i64 q.uses)] 112 (0, 0))], sg188, [Hp.one pb (.cells #[(.bool (backS p).off), (.bool (backS p).armed), (.int .i64 (backS p).left), (.int .i64 (backS p).uses)] 101 (0, 0))], [Hp.one b2 (.cells #[(.int .i64 kd), (.int .i64 n), (.bool ot), dv, kv] 104 (0, 0))], h3, R] (fun i_ => match i_ with | 13 => hA | _ => []) (fun i_ v_ h_ => match i_ with | 0 => v_ = (.pointer (some ⟨qm, 0, none⟩)) ∧ h_ = [] | 1 => v_ = (.pointer (some ⟨qm, 0, none⟩)) ∧ h_ = [] | 2 => v_ = (.pointer (some ⟨qm, 0, none⟩)) ∧ h_ = [] | 3 => v_ = v1 ∧ h_ = [] | 4 => v_ = (.int .i64 (j : Int)) ∧ h_ = [] | 5 => v_ = (.pointer (some ⟨qm, 0, none⟩)) ∧ h_ = [] | 6 => v_ = (.pointer (some ⟨qm, 0, none⟩)) ∧ h_ = [] | 7 => v_ = (.pointer (some ⟨qm, 1, none⟩)) ∧ h_ = [] | 8 => v_ = v2 ∧ h_ = [] | 9 => v_ = (.int .i64 (j : Int)) ∧ h_ = [] | 10 => ∃ (b217 : Nat) (o218 : Nat), v_ = (.pointer (some ⟨b217, o218, none⟩)) ∧ h_ = [] ∧ (CellsAt hN b217 o218 [(S x220)]) | 11 => v_ = (S x220) ∧ h_ = [] | 12 => ∃ (b222 : Nat), v_ = (.pointer (some ⟨b222, ((j : Int)).toNat, none⟩)) ∧ h_ = [] ∧ (OwnAt 9 v1 ((crAS la nw ke j).length) ((crAS la nw ke j).map sV) hA b222) | 13 => ∃ (s224 : List Hp), v_ = undef ∧ h_ = s224 ∧ (Own 9 1 v1 ((crAS la nw ke j).set (((j : Int)).toNat) x220).length (((crAS la nw ke j).set (((j : Int)).toNat) x220).map sV) s224) | _ => True) mixed (by kernel_rfl) (flow_has (cs := [hA]) hH228 rfl) ?_ ?_
                    · intro i_ o_ ho_ r' w' G hs_ ht
                      match i_, ho_ with
                      | 0, ho_ =>
                        obtain rfl := Option.some.inj ho_
                        have e1 : r' 1 = (.pointer (some ⟨qm, 0, none⟩)) := (ht.was 1 (by kernel_rfl)).trans e201_1
                        have hG := ht.has.drop
                        refine o_move (v := (.pointer (some ⟨qm, 0, none⟩))) e1 ?_
                        exact ⟨_, ⟨rfl, rfl⟩, hG⟩
                      | 1, ho_ =>
                        obtain rfl := Option.some.inj ho_
                        obtain ⟨e218, eh0⟩ := (ht.done 0 _ rfl rfl).1
                        have hG := ht.has.drop
                        refine o_nilCheck e218 ?_
                        exact ⟨_, ⟨rfl, rfl⟩, hG⟩
                      | 2, ho_ =>
                        obtain rfl := Option.some.inj ho_
                        obtain ⟨e219, eh1⟩ := (ht.done 1 _ rfl rfl).1
                        have hG := ht.has.drop
                        refine o_fieldAddr (k := 0) (fun _ => by kernel_rfl) e219 ?_
                        exact ⟨_, ⟨rfl, rfl⟩, hG⟩
                      | 3, ho_ =>
                        obtain rfl := Option.some.inj ho_
                        obtain ⟨e220, eh2⟩ := (ht.done 2 _ rfl rfl).1
                        have hG := ht.has.drop
                        refine o_load1 (v := v1) Try.underlying53 rfl e220 hG (ht.fr [Hp.one qm (.cells #[v1, v2, v3] 189 (0, 0))] (by simp)) (CellsAt.one rfl) ?_
                        exact ⟨_, ⟨rfl, rfl⟩, hG⟩
                      | 4, ho_ =>
                        obtain rfl := Option.some.inj ho_
                        have e15 : r' 15 = (.int .i64 (j : Int)) := (ht.was 15 (by kernel_rfl)).trans e201_15
                        have hG := ht.has.drop
                        refine o_move (v := (.int .i64 (j : Int))) e15 ?_
                        exact ⟨_, ⟨rfl, rfl⟩, hG⟩
                      | 5, ho_ =>
                        obtain rfl := Option.some.inj ho_
                        have e1 : r' 1 = (.pointer (some ⟨qm, 0, none⟩)) := (ht.was 1 (by kernel_rfl)).trans e201_1
                        have hG := ht.has.drop
                        refine o_move (v := (.pointer (some ⟨qm, 0, none⟩))) e1 ?_
                        exact ⟨_, ⟨rfl, rfl⟩, hG⟩
                      | 6, ho_ =>
                        obtain rfl := Option.some.inj ho_
                        obtain ⟨e223, eh5⟩ := (ht.done 5 _ rfl rfl).1
                        have hG := ht.has.drop
                        refine o_nilCheck e223 ?_
                        exact ⟨_, ⟨rfl, rfl⟩, hG⟩
                      | 7, ho_ =>
                        obtain rfl := Option.some.inj ho_
                        obtain ⟨e224, eh6⟩ := (ht.done 6 _ rfl rfl).1
                        have hG := ht.has.drop
                        refine o_fieldAddr (k := 1) (fun _ => by kernel_rfl) e224 ?_
                        exact ⟨_, ⟨rfl, rfl⟩, hG⟩
                      | 8, ho_ =>
                        obtain rfl := Option.some.inj ho_
                        obtain ⟨e225, eh7⟩ := (ht.done 7 _ rfl rfl).1
                        have hG := ht.has.drop
                        refine o_load1 (v := v2) Try.underlying53 rfl e225 hG (ht.fr [Hp.one qm (.cells #[v1, v2, v3] 189 (0, 0))] (by simp)) (CellsAt.one rfl) ?_
                        exact ⟨_, ⟨rfl, rfl⟩, hG⟩
                      | 9, ho_ =>
                        obtain rfl := Option.some.inj ho_
                        have e15 : r' 15 = (.int .i64 (j : Int)) := (ht.was 15 (by kernel_rfl)).trans e201_15
                        have hG := ht.has.drop
                        refine o_move (v := (.int .i64 (j : Int))) e15 ?_
                        exact ⟨_, ⟨rfl, rfl⟩, hG⟩
                      | 10, ho_ =>
                        obtain rfl := Option.some.inj ho_
                        obtain ⟨e226, eh8⟩ := (ht.done 8 _ rfl rfl).1
                        obtain ⟨e227, eh9⟩ := (ht.done 9 _ rfl rfl).1
                        have hG := ht.has.drop
                        refine o_index1 Try.underlying53 ti9 e226 hc2.sl e227 (by omega) hx221 fun b217 o218 hc219 => ?_
                        exact ⟨_, ⟨b217, o218, rfl, rfl, hc219⟩, hG⟩
                      | 11, ho_ =>
                        obtain rfl := Option.some.inj ho_
                        obtain ⟨b217, o218, e228, eh10, hc219⟩ := (ht.done 10 _ rfl rfl).1
                        have hG := ht.has.drop
                        refine o_load1 (v := (S x220)) Try.underlying9 rfl e228 hG (ht.fr hN (by simp)) hc219 ?_
                        exact ⟨_, ⟨rfl, rfl⟩, hG⟩
                      | 12, ho_ =>
                        obtain rfl := Option.some.inj ho_
                        obtain ⟨e221, eh3⟩ := (ht.done 3 _ rfl rfl).1
                        obtain ⟨e222, eh4⟩ := (ht.done 4 _ rfl rfl).1
                        obtain ⟨b217, o218, e228, eh10, hc219⟩ := (ht.done 10 _ rfl rfl).1
                        have hG := ht.has.drop
                        refine o_ownAddr Try.underlying53 ti9 e221 hc1 e222 (by omega) (by first | omega | (simp only [List.length_append, List.length_cons, List.length_nil, List.length_set]; omega)) fun b222 ho223 => ?_
                        exact ⟨_, ⟨b222, rfl, rfl, ho223⟩, hG⟩
                      | 13, ho_ =>
                        obtain rfl := Option.some.inj ho_
                        obtain ⟨b217, o218, e228, eh10, hc219⟩ := (ht.done 10 _ rfl rfl).1
                        obtain ⟨e229, eh11⟩ := (ht.done 11 _ rfl rfl).1
                        obtain ⟨b222, e230, eh12, ho223⟩ := (ht.done 12 _ rfl rfl).1
                        have hG := ht.has
                        refine o_ownStore (f := sV) (l := (crAS la nw ke j)) (a := x220) ti9 e230 e229 rfl ho223 (by first | omega | (simp only [List.length_append, List.length_cons, List.length_nil, List.length_set]; omega)) hG fun s224 w225 ho226 hH227 => ?_
                        exact ⟨_, ⟨s224, rfl, rfl, ho226⟩, hH227⟩
                      | i_ + 14, ho_ => exact absurd ho_ (by simp)
                    · intro vs228 hs229 w230 hT231 hH232
                      obtain ⟨e0_, eh0_⟩ := hT231 0 _ rfl
                      obtain ⟨e1_, eh1_⟩ := hT231 1 _ rfl
                      obtain ⟨e2_, eh2_⟩ := hT231 2 _ rfl
                      obtain ⟨e3_, eh3_⟩ := hT231 3 _ rfl
                      obtain ⟨e4_, eh4_⟩ := hT231 4 _ rfl
                      obtain ⟨e5_, eh5_⟩ := hT231 5 _ rfl
                      obtain ⟨e6_, eh6_⟩ := hT231 6 _ rfl
                      obtain ⟨e7_, eh7_⟩ := hT231 7 _ rfl
                      obtain ⟨e8_, eh8_⟩ := hT231 8 _ rfl
                      obtain ⟨e9_, eh9_⟩ := hT231 9 _ rfl
                      obtain ⟨b217, o218, e10_, eh10_, hc219⟩ := hT231 10 _ rfl
                      obtain ⟨e11_, eh11_⟩ := hT231 11 _ rfl
                      obtain ⟨b222, e12_, eh12_, ho223⟩ := hT231 12 _ rfl
                      obtain ⟨s224, e13_, eh13_, ho226⟩ := hT231 13 _ rfl
                      have hH233 : Has E w230 ([hN, [Hp.one qm (.cells #[v1, v2, v3] 189 (0, 0))], [Hp.one qb (.cells #[(.bool false), (.bool false), (.int .i64 q.left), (.int .i64 q.uses)] 112 (0, 0))], sg188, [Hp.one pb (.cells #[(.bool (backS p).off), (.bool (backS p).armed), (.int .i64 (backS p).left), (.int .i64 (backS p).uses)] 101 (0, 0))], [Hp.one b2 (.cells #[(.int .i64 kd), (.int .i64 n), (.bool ot), dv, kv] 104 (0, 0))], h3, R] ++ [s224]) := flow_back (cs := [s224]) hH232 (by show (hs229 0 ++ (hs229 1 ++ (hs229 2 ++ (hs229 3 ++ (hs229 4 ++ (hs229 5 ++ (hs229 6 ++ (hs229 7 ++ (hs229 8 ++ (hs229 9 ++ (hs229 10 ++ (hs229 11 ++ (hs229 12 ++ (hs229 13 ++ [])))))))))))))) = _; rw [eh0_, eh1_, eh2_, eh3_, eh4_, eh5_, eh6_, eh7_, eh8_, eh9_, eh10_, eh11_, eh12_, eh13_]; rfl)
                      generalize hr235 : puts vs228 _ 0 _ = r234
                      have e236_0 : r234 0 = (.pointer (some ⟨db, 0, none⟩)) := by rw [← hr235]; exact e201_0
                      have e236_1 : r234 1 = (.pointer (some ⟨qm, 0, none⟩)) := by rw [← hr235]; exact e201_1
                      have e236_2 : r234 2 = (.pointer (some ⟨qb, 0, none⟩)) := by rw [← hr235]; exact e201_2
                      have e236_3 : r234 3 = (.agg #[(.int .i64 kd), (.int .i64 n), (.bool ot), dv, kv]) := by rw [← hr235]; exact e201_3
                      have e236_7 : r234 7 = (.pointer (some ⟨b2, 0, none⟩)) := by rw [← hr235]; exact e201_7
                      have e236_8 : r234 8 = (.bool false) := by rw [← hr235]; exact e201_8
                      have e236_9 : r234 9 = (S da.flatten) := by rw [← hr235]; exact e201_9
                      have e236_10 : r234 10 = (.bool (decide (n < ((nw.length : Nat) : Int)))) := by rw [← hr235]; exact e201_10
                      have e236_15 : r234 15 = (.int .i64 (j : Int)) := by rw [← hr235]; exact e201_15
                      have e236_34 : r234 34 = (.int .i64 kd) := by rw [← hr235]; exact e201_34
                      have e236_77 : r234 77 = (.bool (decide (kd = 0))) := by rw [← hr235]; exact e201_77
                      have e236_116 : r234 116 = (.bool (decide (kd = 1))) := by rw [← hr235]; exact e201_116
                      have e236_137 : r234 137 = (.bool (decide (kd = 2))) := by rw [← hr235]; exact e201_137
                      have e236_178 : r234 178 = (.bool (decide (kd = 3))) := by rw [← hr235]; exact e201_178
                      have e236_193 : r234 193 = (.bool (decide (kd = 4))) := by rw [← hr235]; exact e201_193
                      have e236_211 : r234 211 = (.bool (decide ((j : Int) < (((crNS la nw ke j).length : Nat) : Int)))) := by rw [← hr235]; exact rfl
                      have e236_217 : r234 217 = (.bool (decide ((j : Int) ∈ ke))) := by rw [← hr235]; exact rfl
                      refine t_norm (hK211 _ _ ?_)
                      obtain ⟨x240, hx241⟩ : ∃ x_, ((crAS la nw ke j).set (((j : Int)).toNat) x220)[((j : Int)).toNat]? = some x_ := get_some (by first | omega | (rw [List.length_set]; omega))
                      have hH248 : Has E w230 [[Hp.one qm (.cells #[v1, v2, v3] 189 (0, 0))], [Hp.one qb (.cells #[(.bool false), (.bool false), (.int .i64 q.left), (.int .i64 q.uses)] 112 (0, 0))], sg188, [Hp.one pb (.cells #[(.bool (backS p).off), (.bool (backS p).armed), (.int .i64 (backS p).left), (.int .i64 (backS p).uses)] 101 (0, 0))], [Hp.one b2 (.cells #[(.int .i64 kd), (.int .i64 n), (.bool ot), dv, kv] 104 (0, 0))], h3, R, s224, hN] := Has.pick hH233 [1, 1, 1, 1, 1, 1, 1, 1, 0] (by kernel_rfl)
                      refine c_flow [[Hp.one qm (.cells #[v1, v2, v3] 189 (0, 0))], [Hp.one qb (.cells #[(.bool false), (.bool false), (.int .i64 q.left), (.int .i64 q.uses)] 112 (0, 0))], sg188, [Hp.one pb (.cells #[(.bool (backS p).off), (.bool (backS p).armed), (.int .i64 (backS p).left), (.int .i64 (backS p).uses)] 101 (0, 0))], [Hp.one b2 (.cells #[(.int .i64 kd), (.int .i64 n), (.bool ot), dv, kv] 104 (0, 0))], h3, R, s224] (fun i_ => match i_ with | 13 => hN | _ => []) (fun i_ v_ h_ => match i_ with | 0 => v_ = (.pointer (some ⟨qm, 0, none⟩)) ∧ h_ = [] | 1 => v_ = (.pointer (some ⟨qm, 0, none⟩)) ∧ h_ = [] | 2 => v_ = (.pointer (some ⟨qm, 1, none⟩)) ∧ h_ = [] | 3 => v_ = v2 ∧ h_ = [] | 4 => v_ = (.int .i64 (j : Int)) ∧ h_ = [] | 5 => v_ = (.pointer (some ⟨qm, 0, none⟩)) ∧ h_ = [] | 6 => v_ = (.pointer (some ⟨qm, 0, none⟩)) ∧ h_ = [] | 7 => v_ = (.pointer (some ⟨qm, 0, none⟩)) ∧ h_ = [] | 8 => v_ = v1 ∧ h_ = [] | 9 => v_ = (.int .i64 (j : Int)) ∧ h_ = [] | 10 => ∃ (b237 : Nat) (o238 : Nat), v_ = (.pointer (some ⟨b237, o238, none⟩)) ∧ h_ = [] ∧ (CellsAt s224 b237 o238 [(S x240)]) | 11 => v_ = (S x240) ∧ h_ = [] | 12 => ∃ (b242 : Nat), v_ = (.pointer (some ⟨b242, ((j : Int)).toNat, none⟩)) ∧ h_ = [] ∧ (OwnAt 9 v2 ((crNS la nw ke j).length) ((crNS la nw ke j).map sV) hN b242) | 13 => ∃ (s244 : List Hp), v_ = undef ∧ h_ = s244 ∧ (Own 9 1 v2 ((crNS la nw ke j).set (((j : Int)).toNat) x240).length (((crNS la nw ke j).set (((j : Int)).toNat) x240).map sV) s244) | _ => True) mixed (by kernel_rfl) (flow_has (cs := [hN]) hH248 rfl) ?_ ?_
                      · intro i_ o_ ho_ r' w' G hs_ ht
                        match i_, ho_ with
                        | 0, ho_ =>
                          obtain rfl := Option.some.inj ho_
                          have e1 : r' 1 = (.pointer (some ⟨qm, 0, none⟩)) := (ht.was 1 (by kernel_rfl)).trans e236_1
                          have hG := ht.has.drop
                          refine o_move (v := (.pointer (some ⟨qm, 0, none⟩))) e1 ?_
                          exact ⟨_, ⟨rfl, rfl⟩, hG⟩
                        | 1, ho_ =>
                          obtain rfl := Option.some.inj ho_
                          obtain ⟨e231, eh0⟩ := (ht.done 0 _ rfl rfl).1
                          have hG := ht.has.drop
                          refine o_nilCheck e231 ?_
                          exact ⟨_, ⟨rfl, rfl⟩, hG⟩
                        | 2, ho_ =>
                          obtain rfl := Option.some.inj ho_
                          obtain ⟨e232, eh1⟩ := (ht.done 1 _ rfl rfl).1
                          have hG := ht.has.drop
                          refine o_fieldAddr (k := 1) (fun _ => by kernel_rfl) e232 ?_
                          exact ⟨_, ⟨rfl, rfl⟩, hG⟩
                        | 3, ho_ =>
                          obtain rfl := Option.some.inj ho_
                          obtain ⟨e233, eh2⟩ := (ht.done 2 _ rfl rfl).1
                          have hG := ht.has.drop
                          refine o_load1 (v := v2) Try.underlying53 rfl e233 hG (ht.fr [Hp.one qm (.cells #[v1, v2, v3] 189 (0, 0))] (by simp)) (CellsAt.one rfl) ?_
                          exact ⟨_, ⟨rfl, rfl⟩, hG⟩
                        | 4, ho_ =>
                          obtain rfl := Option.some.inj ho_
                          have e15 : r' 15 = (.int .i64 (j : Int)) := (ht.was 15 (by kernel_rfl)).trans e236_15
                          have hG := ht.has.drop
                          refine o_move (v := (.int .i64 (j : Int))) e15 ?_
                          exact ⟨_, ⟨rfl, rfl⟩, hG⟩
                        | 5, ho_ =>
                          obtain rfl := Option.some.inj ho_
                          have e1 : r' 1 = (.pointer (some ⟨qm, 0, none⟩)) := (ht.was 1 (by kernel_rfl)).trans e236_1
                          have hG := ht.has.drop
                          refine o_move (v := (.pointer (some ⟨qm, 0, none⟩))) e1 ?_
                          exact ⟨_, ⟨rfl, rfl⟩, hG⟩
                        | 6, ho_ =>
                          obtain rfl := Option.some.inj ho_
                          obtain ⟨e236, eh5⟩ := (ht.done 5 _ rfl rfl).1
                          have hG := ht.has.drop
                          refine o_nilCheck e236 ?_
                          exact ⟨_, ⟨rfl, rfl⟩, hG⟩
                        | 7, ho_ =>
                          obtain rfl := Option.some.inj ho_
                          obtain ⟨e237, eh6⟩ := (ht.done 6 _ rfl rfl).1
                          have hG := ht.has.drop
                          refine o_fieldAddr (k := 0) (fun _ => by kernel_rfl) e237 ?_
                          exact ⟨_, ⟨rfl, rfl⟩, hG⟩
                        | 8, ho_ =>
                          obtain rfl := Option.some.inj ho_
                          obtain ⟨e238, eh7⟩ := (ht.done 7 _ rfl rfl).1
                          have hG := ht.has.drop
                          refine o_load1 (v := v1) Try.underlying53 rfl e238 hG (ht.fr [Hp.one qm (.cells #[v1, v2, v3] 189 (0, 0))] (by simp)) (CellsAt.one rfl) ?_
                          exact ⟨_, ⟨rfl, rfl⟩, hG⟩
                        | 9, ho_ =>
                          obtain rfl := Option.some.inj ho_
                          have e15 : r' 15 = (.int .i64 (j : Int)) := (ht.was 15 (by kernel_rfl)).trans e236_15
                          have hG := ht.has.drop
                          refine o_move (v := (.int .i64 (j : Int))) e15 ?_
                          exact ⟨_, ⟨rfl, rfl⟩, hG⟩
                        | 10, ho_ =>
                          obtain rfl := Option.some.inj ho_
                          obtain ⟨e239, eh8⟩ := (ht.done 8 _ rfl rfl).1
                          obtain ⟨e240, eh9⟩ := (ht.done 9 _ rfl rfl).1
                          have hG := ht.has.drop
                          refine o_index1 Try.underlying53 ti9 e239 ho226.sl e240 (by omega) hx241 fun b237 o238 hc239 => ?_
                          exact ⟨_, ⟨b237, o238, rfl, rfl, hc239⟩, hG⟩
                        | 11, ho_ =>
                          obtain rfl := Option.some.inj ho_
                          obtain ⟨b237, o238, e241, eh10, hc239⟩ := (ht.done 10 _ rfl rfl).1
                          have hG := ht.has.drop
                          refine o_load1 (v := (S x240)) Try.underlying9 rfl e241 hG (ht.fr s224 (by simp)) hc239 ?_
                          exact ⟨_, ⟨rfl, rfl⟩, hG⟩
                        | 12, ho_ =>
                          obtain rfl := Option.some.inj ho_
                          obtain ⟨e234, eh3⟩ := (ht.done 3 _ rfl rfl).1
                          obtain ⟨e235, eh4⟩ := (ht.done 4 _ rfl rfl).1
                          obtain ⟨b237, o238, e241, eh10, hc239⟩ := (ht.done 10 _ rfl rfl).1
                          have hG := ht.has.drop
                          refine o_ownAddr Try.underlying53 ti9 e234 hc2 e235 (by omega) (by first | omega | (simp only [List.length_append, List.length_cons, List.length_nil, List.length_set]; omega)) fun b242 ho243 => ?_
                          exact ⟨_, ⟨b242, rfl, rfl, ho243⟩, hG⟩
                        | 13, ho_ =>
                          obtain rfl := Option.some.inj ho_
                          obtain ⟨b237, o238, e241, eh10, hc239⟩ := (ht.done 10 _ rfl rfl).1
                          obtain ⟨e242, eh11⟩ := (ht.done 11 _ rfl rfl).1
                          obtain ⟨b242, e243, eh12, ho243⟩ := (ht.done 12 _ rfl rfl).1
                          have hG := ht.has
                          refine o_ownStore (f := sV) (l := (crNS la nw ke j)) (a := x240) ti9 e243 e242 rfl ho243 (by first | omega | (simp only [List.length_append, List.length_cons, List.length_nil, List.length_set]; omega)) hG fun s244 w245 ho246 hH247 => ?_
                          exact ⟨_, ⟨s244, rfl, rfl, ho246⟩, hH247⟩
                        | i_ + 14, ho_ => exact absurd ho_ (by simp)
                      · intro vs248 hs249 w250 hT251 hH252
                        obtain ⟨e0_, eh0_⟩ := hT251 0 _ rfl
                        obtain ⟨e1_, eh1_⟩ := hT251 1 _ rfl
                        obtain ⟨e2_, eh2_⟩ := hT251 2 _ rfl
                        obtain ⟨e3_, eh3_⟩ := hT251 3 _ rfl
                        obtain ⟨e4_, eh4_⟩ := hT251 4 _ rfl
                        obtain ⟨e5_, eh5_⟩ := hT251 5 _ rfl
                        obtain ⟨e6_, eh6_⟩ := hT251 6 _ rfl
                        obtain ⟨e7_, eh7_⟩ := hT251 7 _ rfl
                        obtain ⟨e8_, eh8_⟩ := hT251 8 _ rfl
                        obtain ⟨e9_, eh9_⟩ := hT251 9 _ rfl
                        obtain ⟨b237, o238, e10_, eh10_, hc239⟩ := hT251 10 _ rfl
                        obtain ⟨e11_, eh11_⟩ := hT251 11 _ rfl
                        obtain ⟨b242, e12_, eh12_, ho243⟩ := hT251 12 _ rfl
                        obtain ⟨s244, e13_, eh13_, ho246⟩ := hT251 13 _ rfl
                        have hH253 : Has E w250 ([[Hp.one qm (.cells #[v1, v2, v3] 189 (0, 0))], [Hp.one qb (.cells #[(.bool false), (.bool false), (.int .i64 q.left), (.int .i64 q.uses)] 112 (0, 0))], sg188, [Hp.one pb (.cells #[(.bool (backS p).off), (.bool (backS p).armed), (.int .i64 (backS p).left), (.int .i64 (backS p).uses)] 101 (0, 0))], [Hp.one b2 (.cells #[(.int .i64 kd), (.int .i64 n), (.bool ot), dv, kv] 104 (0, 0))], h3, R, s224] ++ [s244]) := flow_back (cs := [s244]) hH252 (by show (hs249 0 ++ (hs249 1 ++ (hs249 2 ++ (hs249 3 ++ (hs249 4 ++ (hs249 5 ++ (hs249 6 ++ (hs249 7 ++ (hs249 8 ++ (hs249 9 ++ (hs249 10 ++ (hs249 11 ++ (hs249 12 ++ (hs249 13 ++ [])))))))))))))) = _; rw [eh0_, eh1_, eh2_, eh3_, eh4_, eh5_, eh6_, eh7_, eh8_, eh9_, eh10_, eh11_, eh12_, eh13_]; rfl)
                        generalize hr255 : puts vs248 _ 0 _ = r254
                        have e256_0 : r254 0 = (.pointer (some ⟨db, 0, none⟩)) := by rw [← hr255]; exact e236_0
                        have e256_1 : r254 1 = (.pointer (some ⟨qm, 0, none⟩)) := by rw [← hr255]; exact e236_1
                        have e256_2 : r254 2 = (.pointer (some ⟨qb, 0, none⟩)) := by rw [← hr255]; exact e236_2
                        have e256_3 : r254 3 = (.agg #[(.int .i64 kd), (.int .i64 n), (.bool ot), dv, kv]) := by rw [← hr255]; exact e236_3
                        have e256_7 : r254 7 = (.pointer (some ⟨b2, 0, none⟩)) := by rw [← hr255]; exact e236_7
                        have e256_8 : r254 8 = (.bool false) := by rw [← hr255]; exact e236_8
                        have e256_9 : r254 9 = (S da.flatten) := by rw [← hr255]; exact e236_9
                        have e256_10 : r254 10 = (.bool (decide (n < ((nw.length : Nat) : Int)))) := by rw [← hr255]; exact e236_10
                        have e256_15 : r254 15 = (.int .i64 (j : Int)) := by rw [← hr255]; exact e236_15
                        have e256_34 : r254 34 = (.int .i64 kd) := by rw [← hr255]; exact e236_34
                        have e256_77 : r254 77 = (.bool (decide (kd = 0))) := by rw [← hr255]; exact e236_77
                        have e256_116 : r254 116 = (.bool (decide (kd = 1))) := by rw [← hr255]; exact e236_116
                        have e256_137 : r254 137 = (.bool (decide (kd = 2))) := by rw [← hr255]; exact e236_137
                        have e256_178 : r254 178 = (.bool (decide (kd = 3))) := by rw [← hr255]; exact e236_178
                        have e256_193 : r254 193 = (.bool (decide (kd = 4))) := by rw [← hr255]; exact e236_193
                        have e256_211 : r254 211 = (.bool (decide ((j : Int) < (((crNS la nw ke j).length : Nat) : Int)))) := by rw [← hr255]; exact e236_211
                        have e256_217 : r254 217 = (.bool (decide ((j : Int) ∈ ke))) := by rw [← hr255]; exact e236_217
                        refine b_norm ?_
                        refine t_norm (hK210 _ _ ?_)
                        refine c_region ?_
                        refine s_op (o_move (v := (.int .i64 (j : Int))) e256_15 ?_)
                        refine s_op (o_add (a := (j : Int)) (b := 1) rfl rfl (w64 (by omega) (by omega)) ?_)
                        refine s_op (o_assign (v := (.int .i64 ((j : Int) + 1))) rfl ?_)
                        refine s_nil ?_
                        have hH257 : Has E w250 [s224, s244, [Hp.one qm (.cells #[v1, v2, v3] 189 (0, 0))], [Hp.one qb (.cells #[(.bool false), (.bool false), (.int .i64 q.left), (.int .i64 q.uses)] 112 (0, 0))], sg188, [Hp.one pb (.cells #[(.bool (backS p).off), (.bool (backS p).armed), (.int .i64 (backS p).left), (.int .i64 (backS p).uses)] 101 (0, 0))], [Hp.one b2 (.cells #[(.int .i64 kd), (.int .i64 n), (.bool ot), dv, kv] 104 (0, 0))], h3, R] := Has.pick hH253 [7, 7, 0, 0, 0, 0, 0, 0, 0] (by kernel_rfl)
                        refine t_norm ⟨la.length - (j + 1), _, rfl, ?_, ?_⟩
                        · omega
                        · exact ⟨(j + 1), s224, s244, rfl, hH257, (by omega), (by rw [← crA_yes (by omega) h216 (show (crNS la nw ke j)[j]? = some _ from hx221)]; exact ho226), (by rw [← crN_step (by omega) (by rw [← crA_yes (by omega) h216 (show (crNS la nw ke j)[j]? = some _ from hx221)]; exact hx241)]; exact ho246), e256_0, e256_1, e256_2, e256_3, e256_7, e256_8, e256_9, e256_10, rfl, e256_34, e256_77, e256_116, e256_137, e256_178, e256_193⟩
                  · -- not: (j : Int) ∈ ke
                    refine wp_skip ?_
                    refine t_norm (hK211 _ _ ?_)
                    obtain ⟨x261, hx262⟩ : ∃ x_, (crAS la nw ke j)[((j : Int)).toNat]? = some x_ := get_some (by first | omega | (rw [List.length_set]; omega))
                    have hH269 : Has E w215 [hA, [Hp.one qm (.cells #[v1, v2, v3] 189 (0, 0))], [Hp.one qb (.cells #[(.bool false), (.bool false), (.int .i64 q.left), (.int .i64 q.uses)] 112 (0, 0))], sg188, [Hp.one pb (.cells #[(.bool (backS p).off), (.bool (backS p).armed), (.int .i64 (backS p).left), (.int .i64 (backS p).uses)] 101 (0, 0))], [Hp.one b2 (.cells #[(.int .i64 kd), (.int .i64 n), (.bool ot), dv, kv] 104 (0, 0))], h3, R, hN] := Has.pick hH214 [0, 1, 1, 1, 1, 1, 1, 1, 0] (by kernel_rfl)
                    refine c_flow [hA, [Hp.one qm (.cells #[v1, v2, v3] 189 (0, 0))], [Hp.one qb (.cells #[(.bool false), (.bool false), (.int .i64 q.left), (.int .i64 q.uses)] 112 (0, 0))], sg188, [Hp.one pb (.cells #[(.bool (backS p).off), (.bool (backS p).armed), (.int .i64 (backS p).left), (.int .i64 (backS p).uses)] 101 (0, 0))], [Hp.one b2 (.cells #[(.int .i64 kd), (.int .i64 n), (.bool ot), dv, kv] 104 (0, 0))], h3, R] (fun i_ => match i_ with | 13 => hN | _ => []) (fun i_ v_ h_ => match i_ with | 0 => v_ = (.pointer (some ⟨qm, 0, none⟩)) ∧ h_ = [] | 1 => v_ = (.pointer (some ⟨qm, 0, none⟩)) ∧ h_ = [] | 2 => v_ = (.pointer (some ⟨qm, 1, none⟩)) ∧ h_ = [] | 3 => v_ = v2 ∧ h_ = [] | 4 => v_ = (.int .i64 (j : Int)) ∧ h_ = [] | 5 => v_ = (.pointer (some ⟨qm, 0, none⟩)) ∧ h_ = [] | 6 => v_ = (.pointer (some ⟨qm, 0, none⟩)) ∧ h_ = [] | 7 => v_ = (.pointer (some ⟨qm, 0, none⟩)) ∧ h_ = [] | 8 => v_ = v1 ∧ h_ = [] | 9 => v_ = (.int .i64 (j : Int)) ∧ h_ = [] | 10 => ∃ (b258 : Nat) (o259 : Nat), v_ = (.pointer (some ⟨b258, o259, none⟩)) ∧ h_ = [] ∧ (CellsAt hA b258 o259 [(S x261)]) | 11 => v_ = (S x261) ∧ h_ = [] | 12 => ∃ (b263 : Nat), v_ = (.pointer (some ⟨b263, ((j : Int)).toNat, none⟩)) ∧ h_ = [] ∧ (OwnAt 9 v2 ((crNS la nw ke j).length) ((crNS la nw ke j).map sV) hN b263) | 13 => ∃ (s265 : List Hp), v_ = undef ∧ h_ = s265 ∧ (Own 9 1 v2 ((crNS la nw ke j).set (((j : Int)).toNat) x261).length (((crNS la nw ke j).set (((j : Int)).toNat) x261).map sV) s265) | _ => True) mixed (by kernel_rfl) (flow_has (cs := [hN]) hH269 rfl) ?_ ?_
                    · intro i_ o_ ho_ r' w' G hs_ ht
                      match i_, ho_ with
                      | 0, ho_ =>
                        obtain rfl := Option.some.inj ho_
                        have e1 : r' 1 = (.pointer (some ⟨qm, 0, none⟩)) := (ht.was 1 (by kernel_rfl)).trans e201_1
                        have hG := ht.has.drop
                        refine o_move (v := (.pointer (some ⟨qm, 0, none⟩))) e1 ?_
                        exact ⟨_, ⟨rfl, rfl⟩, hG⟩
                      | 1, ho_ =>
                        obtain rfl := Option.some.inj ho_
                        obtain ⟨e231, eh0⟩ := (ht.done 0 _ rfl rfl).1
                        have hG := ht.has.drop
                        refine o_nilCheck e231 ?_
                        exact ⟨_, ⟨rfl, rfl⟩, hG⟩
                      | 2, ho_ =>
                        obtain rfl := Option.some.inj ho_
                        obtain ⟨e232, eh1⟩ := (ht.done 1 _ rfl rfl).1
                        have hG := ht.has.drop
                        refine o_fieldAddr (k := 1) (fun _ => by kernel_rfl) e232 ?_
                        exact ⟨_, ⟨rfl, rfl⟩, hG⟩
                      | 3, ho_ =>
                        obtain rfl := Option.some.inj ho_
                        obtain ⟨e233, eh2⟩ := (ht.done 2 _ rfl rfl).1
                        have hG := ht.has.drop
                        refine o_load1 (v := v2) Try.underlying53 rfl e233 hG (ht.fr [Hp.one qm (.cells #[v1, v2, v3] 189 (0, 0))] (by simp)) (CellsAt.one rfl) ?_
                        exact ⟨_, ⟨rfl, rfl⟩, hG⟩
                      | 4, ho_ =>
                        obtain rfl := Option.some.inj ho_
                        have e15 : r' 15 = (.int .i64 (j : Int)) := (ht.was 15 (by kernel_rfl)).trans e201_15
                        have hG := ht.has.drop
                        refine o_move (v := (.int .i64 (j : Int))) e15 ?_
                        exact ⟨_, ⟨rfl, rfl⟩, hG⟩
                      | 5, ho_ =>
                        obtain rfl := Option.some.inj ho_
                        have e1 : r' 1 = (.pointer (some ⟨qm, 0, none⟩)) := (ht.was 1 (by kernel_rfl)).trans e201_1
                        have hG := ht.has.drop
                        refine o_move (v := (.pointer (some ⟨qm, 0, none⟩))) e1 ?_
                        exact ⟨_, ⟨rfl, rfl⟩, hG⟩
                      | 6, ho_ =>
                        obtain rfl := Option.some.inj ho_
                        obtain ⟨e236, eh5⟩ := (ht.done 5 _ rfl rfl).1
                        have hG := ht.has.drop
                        refine o_nilCheck e236 ?_
                        exact ⟨_, ⟨rfl, rfl⟩, hG⟩
                      | 7, ho_ =>
                        obtain rfl := Option.some.inj ho_
                        obtain ⟨e237, eh6⟩ := (ht.done 6 _ rfl rfl).1
                        have hG := ht.has.drop
                        refine o_fieldAddr (k := 0) (fun _ => by kernel_rfl) e237 ?_
                        exact ⟨_, ⟨rfl, rfl⟩, hG⟩
                      | 8, ho_ =>
                        obtain rfl := Option.some.inj ho_
                        obtain ⟨e238, eh7⟩ := (ht.done 7 _ rfl rfl).1
                        have hG := ht.has.drop
                        refine o_load1 (v := v1) Try.underlying53 rfl e238 hG (ht.fr [Hp.one qm (.cells #[v1, v2, v3] 189 (0, 0))] (by simp)) (CellsAt.one rfl) ?_
                        exact ⟨_, ⟨rfl, rfl⟩, hG⟩
                      | 9, ho_ =>
                        obtain rfl := Option.some.inj ho_
                        have e15 : r' 15 = (.int .i64 (j : Int)) := (ht.was 15 (by kernel_rfl)).trans e201_15
                        have hG := ht.has.drop
                        refine o_move (v := (.int .i64 (j : Int))) e15 ?_
                        exact ⟨_, ⟨rfl, rfl⟩, hG⟩
                      | 10, ho_ =>
                        obtain rfl := Option.some.inj ho_
                        obtain ⟨e239, eh8⟩ := (ht.done 8 _ rfl rfl).1
                        obtain ⟨e240, eh9⟩ := (ht.done 9 _ rfl rfl).1
                        have hG := ht.has.drop
                        refine o_index1 Try.underlying53 ti9 e239 hc1.sl e240 (by omega) hx262 fun b258 o259 hc260 => ?_
                        exact ⟨_, ⟨b258, o259, rfl, rfl, hc260⟩, hG⟩
                      | 11, ho_ =>
                        obtain rfl := Option.some.inj ho_
                        obtain ⟨b258, o259, e241, eh10, hc260⟩ := (ht.done 10 _ rfl rfl).1
                        have hG := ht.has.drop
                        refine o_load1 (v := (S x261)) Try.underlying9 rfl e241 hG (ht.fr hA (by simp)) hc260 ?_
                        exact ⟨_, ⟨rfl, rfl⟩, hG⟩
                      | 12, ho_ =>
                        obtain rfl := Option.some.inj ho_
                        obtain ⟨e234, eh3⟩ := (ht.done 3 _ rfl rfl).1
                        obtain ⟨e235, eh4⟩ := (ht.done 4 _ rfl rfl).1
                        obtain ⟨b258, o259, e241, eh10, hc260⟩ := (ht.done 10 _ rfl rfl).1
                        have hG := ht.has.drop
                        refine o_ownAddr Try.underlying53 ti9 e234 hc2 e235 (by omega) (by first | omega | (simp only [List.length_append, List.length_cons, List.length_nil, List.length_set]; omega)) fun b263 ho264 => ?_
                        exact ⟨_, ⟨b263, rfl, rfl, ho264⟩, hG⟩
                      | 13, ho_ =>
                        obtain rfl := Option.some.inj ho_
                        obtain ⟨b258, o259, e241, eh10, hc260⟩ := (ht.done 10 _ rfl rfl).1
                        obtain ⟨e242, eh11⟩ := (ht.done 11 _ rfl rfl).1
                        obtain ⟨b263, e243, eh12, ho264⟩ := (ht.done 12 _ rfl rfl).1
                        have hG := ht.has
                        refine o_ownStore (f := sV) (l := (crNS la nw ke j)) (a := x261) ti9 e243 e242 rfl ho264 (by first | omega | (simp only [List.length_append, List.length_cons, List.length_nil, List.length_set]; omega)) hG fun s265 w266 ho267 hH268 => ?_
                        exact ⟨_, ⟨s265, rfl, rfl, ho267⟩, hH268⟩
                      | i_ + 14, ho_ => exact absurd ho_ (by simp)
                    · intro vs269 hs270 w271 hT272 hH273
                      obtain ⟨e0_, eh0_⟩ := hT272 0 _ rfl
                      obtain ⟨e1_, eh1_⟩ := hT272 1 _ rfl
                      obtain ⟨e2_, eh2_⟩ := hT272 2 _ rfl
                      obtain ⟨e3_, eh3_⟩ := hT272 3 _ rfl
                      obtain ⟨e4_, eh4_⟩ := hT272 4 _ rfl
                      obtain ⟨e5_, eh5_⟩ := hT272 5 _ rfl
                      obtain ⟨e6_, eh6_⟩ := hT272 6 _ rfl
                      obtain ⟨e7_, eh7_⟩ := hT272 7 _ rfl
                      obtain ⟨e8_, eh8_⟩ := hT272 8 _ rfl
                      obtain ⟨e9_, eh9_⟩ := hT272 9 _ rfl
                      obtain ⟨b258, o259, e10_, eh10_, hc260⟩ := hT272 10 _ rfl
                      obtain ⟨e11_, eh11_⟩ := hT272 11 _ rfl
                      obtain ⟨b263, e12_, eh12_, ho264⟩ := hT272 12 _ rfl
                      obtain ⟨s265, e13_, eh13_, ho267⟩ := hT272 13 _ rfl
                      have hH274 : Has E w271 ([hA, [Hp.one qm (.cells #[v1, v2, v3] 189 (0, 0))], [Hp.one qb (.cells #[(.bool false), (.bool false), (.int .i64 q.left), (.int .i64 q.uses)] 112 (0, 0))], sg188, [Hp.one pb (.cells #[(.bool (backS p).off), (.bool (backS p).armed), (.int .i64 (backS p).left), (.int .i64 (backS p).uses)] 101 (0, 0))], [Hp.one b2 (.cells #[(.int .i64 kd), (.int .i64 n), (.bool ot), dv, kv] 104 (0, 0))], h3, R] ++ [s265]) := flow_back (cs := [s265]) hH273 (by show (hs270 0 ++ (hs270 1 ++ (hs270 2 ++ (hs270 3 ++ (hs270 4 ++ (hs270 5 ++ (hs270 6 ++ (hs270 7 ++ (hs270 8 ++ (hs270 9 ++ (hs270 10 ++ (hs270 11 ++ (hs270 12 ++ (hs270 13 ++ [])))))))))))))) = _; rw [eh0_, eh1_, eh2_, eh3_, eh4_, eh5_, eh6_, eh7_, eh8_, eh9_, eh10_, eh11_, eh12_, eh13_]; rfl)
                      generalize hr276 : puts vs269 _ 0 _ = r275
                      have e277_0 : r275 0 = (.pointer (some ⟨db, 0, none⟩)) := by rw [← hr276]; exact e201_0
                      have e277_1 : r275 1 = (.pointer (some ⟨qm, 0, none⟩)) := by rw [← hr276]; exact e201_1
                      have e277_2 : r275 2 = (.pointer (some ⟨qb, 0, none⟩)) := by rw [← hr276]; exact e201_2
                      have e277_3 : r275 3 = (.agg #[(.int .i64 kd), (.int .i64 n), (.bool ot), dv, kv]) := by rw [← hr276]; exact e201_3
                      have e277_7 : r275 7 = (.pointer (some ⟨b2, 0, none⟩)) := by rw [← hr276]; exact e201_7
                      have e277_8 : r275 8 = (.bool false) := by rw [← hr276]; exact e201_8
                      have e277_9 : r275 9 = (S da.flatten) := by rw [← hr276]; exact e201_9
                      have e277_10 : r275 10 = (.bool (decide (n < ((nw.length : Nat) : Int)))) := by rw [← hr276]; exact e201_10
                      have e277_15 : r275 15 = (.int .i64 (j : Int)) := by rw [← hr276]; exact e201_15
                      have e277_34 : r275 34 = (.int .i64 kd) := by rw [← hr276]; exact e201_34
                      have e277_77 : r275 77 = (.bool (decide (kd = 0))) := by rw [← hr276]; exact e201_77
                      have e277_116 : r275 116 = (.bool (decide (kd = 1))) := by rw [← hr276]; exact e201_116
                      have e277_137 : r275 137 = (.bool (decide (kd = 2))) := by rw [← hr276]; exact e201_137
                      have e277_178 : r275 178 = (.bool (decide (kd = 3))) := by rw [← hr276]; exact e201_178
                      have e277_193 : r275 193 = (.bool (decide (kd = 4))) := by rw [← hr276]; exact e201_193
                      have e277_211 : r275 211 = (.bool (decide ((j : Int) < (((crNS la nw ke j).length : Nat) : Int)))) := by rw [← hr276]; exact rfl
                      have e277_217 : r275 217 = (.bool (decide ((j : Int) ∈ ke))) := by rw [← hr276]; exact rfl
                      refine b_norm ?_
                      refine t_norm (hK210 _ _ ?_)
                      refine c_region ?_
                      refine s_op (o_move (v := (.int .i64 (j : Int))) e277_15 ?_)
                      refine s_op (o_add (a := (j : Int)) (b := 1) rfl rfl (w64 (by omega) (by omega)) ?_)
                      refine s_op (o_assign (v := (.int .i64 ((j : Int) + 1))) rfl ?_)
                      refine s_nil ?_
                      have hH278 : Has E w271 [hA, s265, [Hp.one qm (.cells #[v1, v2, v3] 189 (0, 0))], [Hp.one qb (.cells #[(.bool false), (.bool false), (.int .i64 q.left), (.int .i64 q.uses)] 112 (0, 0))], sg188, [Hp.one pb (.cells #[(.bool (backS p).off), (.bool (backS p).armed), (.int .i64 (backS p).left), (.int .i64 (backS p).uses)] 101 (0, 0))], [Hp.one b2 (.cells #[(.int .i64 kd), (.int .i64 n), (.bool ot), dv, kv] 104 (0, 0))], h3, R] := Has.pick hH274 [0, 7, 0, 0, 0, 0, 0, 0, 0] (by kernel_rfl)
                      refine t_norm ⟨la.length - (j + 1), _, rfl, ?_, ?_⟩
                      · omega
                      · exact ⟨(j + 1), hA, s265, rfl, hH278, (by omega), (by rw [← crA_no h216]; exact hc1), (by rw [← crN_step (by omega) (by rw [← crA_no h216]; exact hx262)]; exact ho267), e277_0, e277_1, e277_2, e277_3, e277_7, e277_8, e277_9, e277_10, rfl, e277_34, e277_77, e277_116, e277_137, e277_178, e277_193⟩
                · -- not: (j : Int) < (((crNS la nw ke j).length : Nat) : Int)
                  refine wp_exit ?_
                  refine t_exit (t_exit (x_in (?_)))
                  refine t_norm (hK199 _ _ ?_)
                  refine c_region ?_
                  refine s_op (o_move (v := (.pointer (some ⟨qm, 0, none⟩))) e201_1 ?_)
                  refine s_op (o_nilCheck rfl ?_)
                  refine s_op (o_fieldAddr (k := 2) (fun _ => by kernel_rfl) rfl ?_)
                  refine s_eff (o_store1 (c' := #[v1, v2, (.slice none 0 0)]) ti54 rfl rfl rfl (by simp) rfl (hH205.front 2 rfl) fun w279 hH280 => ?_)
                  refine s_nil ?_
                  refine b_norm ?_
                  refine t_norm (hK20 _ _ ?_)
                  refine wp_seq_k fun K281 hK281 => ?_
                  refine c_region ?_
                  refine s_op (o_assign (v := (.bool true)) rfl ?_)
                  refine s_nil ?_
                  refine t_norm (hK281 _ _ ?_)
                  refine wp_ret ?_
                  refine c_ret1 Try.results55  (v := (.bool true)) rfl ?_
                  have hH282 : Has E w279 [sg188, [Hp.one pb (.cells #[(.bool (backS p).off), (.bool (backS p).armed), (.int .i64 (backS p).left), (.int .i64 (backS p).uses)] 101 (0, 0))], hA, hN, [], [Hp.one qm (.cells #[v1, v2, (.slice none 0 0)] 189 (0, 0))], [Hp.one qb (.cells #[(.bool false), (.bool false), (.int .i64 q.left), (.int .i64 q.uses)] 112 (0, 0))], R] := Has.pick (Has.nil hH280) [5, 5, 2, 2, 0, 0, 0, 2] (by kernel_rfl)
                  obtain ⟨hc1_, hc2_, hc3_⟩ := hsim.crash ke
                  have hjl_ : j = la.length := by omega
                  exact ⟨_, _, _, (backS p), _, _, _, _, _, _, _, _, _, rfl, hd189, (settle_len _ _ _), hc3_, hpr.back.mono (by omega), (by rw [← hc1_, ← hjl_]; exact hc1), (by rw [← hc2_, ← hjl_]; exact hc2), (Own.nil 3 1), hH282⟩
              · -- not: kd = 4
                refine wp_seq_k fun K283 hK283 => ?_
                refine c_region ?_
                refine s_op (o_assign (v := (.int .i64 0)) rfl ?_)
                refine s_nil ?_
                refine t_norm (hK283 _ _ ?_)
                refine wp_seq_k fun K284 hK284 => ?_
                refine wp_seq_k fun K285 hK285 => ?_
                refine c_region ?_
                refine s_op (o_move (v := (.bool (decide (n < ((nw.length : Nat) : Int))))) e19_10 ?_)
                refine s_op (o_not2 (b := decide (n < ((nw.length : Nat) : Int))) (b' := decide (¬ (n < ((nw.length : Nat) : Int)))) rfl not_dec ?_)
                refine s_op (o_move (v := (.bool (decide (¬ (n < ((nw.length : Nat) : Int)))))) rfl ?_)
                by_cases h286 : ¬ (n < ((nw.length : Nat) : Int))
                · -- ¬ (n < ((nw.length : Nat) : Int))
                  refine s_off (b' := true) 37 rfl (congrArg Value.bool (decide_eq_true h286)) rfl ?_
                  refine s_off (b' := true) 37 rfl (congrArg Value.bool (decide_eq_true h286)) rfl ?_
                  refine s_off (b' := true) 37 rfl (congrArg Value.bool (decide_eq_true h286)) rfl ?_
                  refine s_op (o_pick_t (u := (.bool true)) ((rfl : _ = _).trans (congrArg Value.bool (decide_eq_true h286))) rfl ?_)
                  refine s_nil ?_
                  refine t_norm (hK285 _ _ ?_)
                  refine c_true rfl rfl ?_
                  refine c_region ?_
                  refine s_op (o_assign (v := (.int .i64 1)) rfl ?_)
                  refine s_nil ?_
                  refine t_norm (hK284 _ _ ?_)
                  refine wp_seq_k fun K287 hK287 => ?_
                  refine c_region ?_
                  refine s_op (o_move (v := (.pointer (some ⟨db, 0, none⟩))) e19_0 ?_)
                  refine s_op (o_fieldAddr (k := 1) (fun _ => by kernel_rfl) e19_7 ?_)
                  refine s_op (o_load1 (v := (.int .i64 n)) Try.underlying3 rfl rfl hH16 (seg_sub 0 rfl) (CellsAt.one rfl) ?_)
                  refine s_op (o_move (v := (S da.flatten)) e19_9 ?_)
                  refine s_op (o_callf (vs := #[(.pointer (some ⟨db, 0, none⟩)), (.int .i64 n), (S da.flatten)]) ca52 rfl (args3 rfl rfl rfl) (put_d (p := p) (la := la) (lo := lo) ((hH16.front 2 rfl).front 2 rfl).all2 hd n da.flatten (by omega)) ?_)
                  rintro _ w292 ⟨sg288, rfl, hd289, hX290⟩
                  refine ⟨_, rfl, ?_⟩
                  have hH291 : Has E w292 [sg288, [Hp.one pb (.cells #[(.bool p.off), (.bool p.armed), (.int .i64 p.left), (.int .i64 p.uses)] 101 (0, 0))], [Hp.one b2 (.cells #[(.int .i64 kd), (.int .i64 n), (.bool ot), dv, kv] 104 (0, 0))], h1, h2, h3, [Hp.one qm (.cells #[v1, v2, v3] 189 (0, 0))], [Hp.one qb (.cells #[(.bool q.off), (.bool q.armed), (.int .i64 q.left), (.int .i64 q.uses)] 112 (0, 0))], R] := hX290.of_all2
                  refine s_op (o_move (v := (.int .i64 1)) rfl ?_)
                  refine s_op (o_eql (a := putE la.length n da.flatten) (b := 1) rfl rfl ?_)
                  refine s_op (o_assign (v := (.bool (decide (putE la.length n da.flatten = 1)))) rfl ?_)
                  refine s_nil ?_
                  refine t_norm (hK287 _ _ ?_)
                  refine wp_ret ?_
                  refine b_ret (t_ret (c_ret1 Try.results55  (v := (.bool (decide (putE la.length n da.flatten = 1)))) rfl ?_))
                  have hH293 : Has E w292 [sg288, [Hp.one pb (.cells #[(.bool p.off), (.bool p.armed), (.int .i64 p.left), (.int .i64 p.uses)] 101 (0, 0))], h1, h2, h3, [Hp.one qm (.cells #[v1, v2, v3] 189 (0, 0))], [Hp.one qb (.cells #[(.bool q.off), (.bool q.armed), (.int .i64 q.left), (.int .i64 q.uses)] 112 (0, 0))], R] := Has.pick hH291 [0, 0, 1, 1, 1, 1, 1, 1] (by kernel_rfl)
                  have hS := hsim.put_bad (n := n) (s := da.flatten) (fun g => by have g1 := g.1; have g2 := g.2.1; have g3 := g.2.2; omega)
                  exact ⟨_, _, _, p, _, _, _, _, _, _, _, _, _, by rw [decide_eq_true (show _ = _ from hS.2.1)], hd289, (putA_len _ _ _), hS.1, hpr.mono (by omega), (by rw [hS.2.2]; exact ho1), ho2, ho3, hH293⟩
                · -- not: ¬ (n < ((nw.length : Nat) : Int))
                  refine s_on 37 rfl (congrArg Value.bool (decide_eq_false h286)) (o_move (v := (S da.flatten)) e19_9 ?_)
                  refine s_on 37 rfl (congrArg Value.bool (decide_eq_false h286)) (o_slen Try.underlying9 rfl ?_)
                  refine s_on 37 rfl (congrArg Value.bool (decide_eq_false h286)) (o_gtr (a := (da.flatten.length : Int)) (b := 64) rfl rfl ?_)
                  refine s_op (o_pick_f (u := (.bool (decide (64 < (da.flatten.length : Int))))) ((rfl : _ = _).trans (congrArg Value.bool (decide_eq_false h286))) rfl ?_)
                  refine s_nil ?_
                  refine t_norm (hK285 _ _ ?_)
                  refine c_cond rfl (fun h294 => ?_) (fun h294 => ?_)
                  · -- 64 < (da.flatten.length : Int)
                    refine c_region ?_
                    refine s_op (o_assign (v := (.int .i64 1)) rfl ?_)
                    refine s_nil ?_
                    refine t_norm (hK284 _ _ ?_)
                    refine wp_seq_k fun K295 hK295 => ?_
                    refine c_region ?_
                    refine s_op (o_move (v := (.pointer (some ⟨db, 0, none⟩))) e19_0 ?_)
                    refine s_op (o_fieldAddr (k := 1) (fun _ => by kernel_rfl) e19_7 ?_)
                    refine s_op (o_load1 (v := (.int .i64 n)) Try.underlying3 rfl rfl hH16 (seg_sub 0 rfl) (CellsAt.one rfl) ?_)
                    refine s_op (o_move (v := (S da.flatten)) e19_9 ?_)
                    refine s_op (o_callf (vs := #[(.pointer (some ⟨db, 0, none⟩)), (.int .i64 n), (S da.flatten)]) ca52 rfl (args3 rfl rfl rfl) (put_d (p := p) (la := la) (lo := lo) ((hH16.front 2 rfl).front 2 rfl).all2 hd n da.flatten (by omega)) ?_)
                    rintro _ w300 ⟨sg296, rfl, hd297, hX298⟩
                    refine ⟨_, rfl, ?_⟩
                    have hH299 : Has E w300 [sg296, [Hp.one pb (.cells #[(.bool p.off), (.bool p.armed), (.int .i64 p.left), (.int .i64 p.uses)] 101 (0, 0))], [Hp.one b2 (.cells #[(.int .i64 kd), (.int .i64 n), (.bool ot), dv, kv] 104 (0, 0))], h1, h2, h3, [Hp.one qm (.cells #[v1, v2, v3] 189 (0, 0))], [Hp.one qb (.cells #[(.bool q.off), (.bool q.armed), (.int .i64 q.left), (.int .i64 q.uses)] 112 (0, 0))], R] := hX298.of_all2
                    refine s_op (o_move (v := (.int .i64 1)) rfl ?_)
                    refine s_op (o_eql (a := putE la.length n da.flatten) (b := 1) rfl rfl ?_)
                    refine s_op (o_assign (v := (.bool (decide (putE la.length n da.flatten = 1)))) rfl ?_)
                    refine s_nil ?_
                    refine t_norm (hK295 _ _ ?_)
                    refine wp_ret ?_
                    refine b_ret (t_ret (c_ret1 Try.results55  (v := (.bool (decide (putE la.length n da.flatten = 1)))) rfl ?_))
                    have hH301 : Has E w300 [sg296, [Hp.one pb (.cells #[(.bool p.off), (.bool p.armed), (.int .i64 p.left), (.int .i64 p.uses)] 101 (0, 0))], h1, h2, h3, [Hp.one qm (.cells #[v1, v2, v3] 189 (0, 0))], [Hp.one qb (.cells #[(.bool q.off), (.bool q.armed), (.int .i64 q.left), (.int .i64 q.uses)] 112 (0, 0))], R] := Has.pick hH299 [0, 0, 1, 1, 1, 1, 1, 1] (by kernel_rfl)
                    have hS := hsim.put_bad (n := n) (s := da.flatten) (fun g => by have g1 := g.1; have g2 := g.2.1; have g3 := g.2.2; omega)
                    exact ⟨_, _, _, p, _, _, _, _, _, _, _, _, _, by rw [decide_eq_true (show _ = _ from hS.2.1)], hd297, (putA_len _ _ _), hS.1, hpr.mono (by omega), (by rw [hS.2.2]; exact ho1), ho2, ho3, hH301⟩
                  · -- not: 64 < (da.flatten.length : Int)
                    refine wp_seq_k fun K302 hK302 => ?_
                    have hH312 : Has E w13 [[Hp.one b2 (.cells #[(.int .i64 kd), (.int .i64 n), (.bool ot), dv, kv] 104 (0, 0))], sg, [Hp.one pb (.cells #[(.bool p.off), (.bool p.armed), (.int .i64 p.left), (.int .i64 p.uses)] 101 (0, 0))], h1, h3, [Hp.one qm (.cells #[v1, v2, v3] 189 (0, 0))], [Hp.one qb (.cells #[(.bool q.off), (.bool q.armed), (.int .i64 q.left), (.int .i64 q.uses)] 112 (0, 0))], R, h2] := Has.pick hH16 [0, 0, 0, 0, 1, 1, 1, 1, 0] (by kernel_rfl)
                    refine c_flow [[Hp.one b2 (.cells #[(.int .i64 kd), (.int .i64 n), (.bool ot), dv, kv] 104 (0, 0))], sg, [Hp.one pb (.cells #[(.bool p.off), (.bool p.armed), (.int .i64 p.left), (.int .i64 p.uses)] 101 (0, 0))], h1, h3, [Hp.one qm (.cells #[v1, v2, v3] 189 (0, 0))], [Hp.one qb (.cells #[(.bool q.off), (.bool q.armed), (.int .i64 q.left), (.int .i64 q.uses)] 112 (0, 0))], R] (fun i_ => match i_ with | 9 => h2 | _ => []) (fun i_ v_ h_ => match i_ with | 0 => v_ = (.pointer (some ⟨qm, 0, none⟩)) ∧ h_ = [] | 1 => v_ = (.pointer (some ⟨qm, 0, none⟩)) ∧ h_ = [] | 2 => v_ = (.pointer (some ⟨qm, 1, none⟩)) ∧ h_ = [] | 3 => v_ = v2 ∧ h_ = [] | 4 => v_ = (.pointer (some ⟨b2, 1, none⟩)) ∧ h_ = [] | 5 => v_ = (.int .i64 n) ∧ h_ = [] | 6 => v_ = (S da.flatten) ∧ h_ = [] | 7 => v_ = (S (fillS da.flatten)) ∧ h_ = [] | 8 => ∃ (b306 : Nat), v_ = (.pointer (some ⟨b306, (n).toNat, none⟩)) ∧ h_ = [] ∧ (OwnAt 9 v2 nw.length (nw.map sV) h2 b306) | 9 => ∃ (s308 : List Hp), v_ = undef ∧ h_ = s308 ∧ (Own 9 1 v2 (nw.set ((n).toNat) (fillS da.flatten)).length ((nw.set ((n).toNat) (fillS da.flatten)).map sV) s308) | _ => True) mixed (by kernel_rfl) (flow_has (cs := [h2]) hH312 rfl) ?_ ?_
                    · intro i_ o_ ho_ r' w' G hs_ ht
                      match i_, ho_ with
                      | 0, ho_ =>
                        obtain rfl := Option.some.inj ho_
                        have e1 : r' 1 = (.pointer (some ⟨qm, 0, none⟩)) := (ht.was 1 (by kernel_rfl)).trans e19_1
                        have hG := ht.has.drop
                        refine o_move (v := (.pointer (some ⟨qm, 0, none⟩))) e1 ?_
                        exact ⟨_, ⟨rfl, rfl⟩, hG⟩
                      | 1, ho_ =>
                        obtain rfl := Option.some.inj ho_
                        obtain ⟨e42, eh0⟩ := (ht.done 0 _ rfl rfl).1
                        have hG := ht.has.drop
                        refine o_nilCheck e42 ?_
                        exact ⟨_, ⟨rfl, rfl⟩, hG⟩
                      | 2, ho_ =>
                        obtain rfl := Option.some.inj ho_
                        obtain ⟨e43, eh1⟩ := (ht.done 1 _ rfl rfl).1
                        have hG := ht.has.drop
                        refine o_fieldAddr (k := 1) (fun _ => by kernel_rfl) e43 ?_
                        exact ⟨_, ⟨rfl, rfl⟩, hG⟩
                      | 3, ho_ =>
                        obtain rfl := Option.some.inj ho_
                        obtain ⟨e44, eh2⟩ := (ht.done 2 _ rfl rfl).1
                        have hG := ht.has.drop
                        refine o_load1 (v := v2) Try.underlying53 rfl e44 hG (ht.fr [Hp.one qm (.cells #[v1, v2, v3] 189 (0, 0))] (by simp)) (CellsAt.one rfl) ?_
                        exact ⟨_, ⟨rfl, rfl⟩, hG⟩
                      | 4, ho_ =>
                        obtain rfl := Option.some.inj ho_
                        have e7 : r' 7 = (.pointer (some ⟨b2, 0, none⟩)) := (ht.was 7 (by kernel_rfl)).trans e19_7
                        have hG := ht.has.drop
                        refine o_fieldAddr (k := 1) (fun _ => by kernel_rfl) e7 ?_
                        exact ⟨_, ⟨rfl, rfl⟩, hG⟩
                      | 5, ho_ =>
                        obtain rfl := Option.some.inj ho_
                        obtain ⟨e46, eh4⟩ := (ht.done 4 _ rfl rfl).1
                        have hG := ht.has.drop
                        refine o_load1 (v := (.int .i64 n)) Try.underlying3 rfl e46 hG (ht.fr [Hp.one b2 (.cells #[(.int .i64 kd), (.int .i64 n), (.bool ot), dv, kv] 104 (0, 0))] (by simp)) (CellsAt.one rfl) ?_
                        exact ⟨_, ⟨rfl, rfl⟩, hG⟩
                      | 6, ho_ =>
                        obtain rfl := Option.some.inj ho_
                        have e9 : r' 9 = (S da.flatten) := (ht.was 9 (by kernel_rfl)).trans e19_9
                        have hG := ht.has.drop
                        refine o_move (v := (S da.flatten)) e9 ?_
                        exact ⟨_, ⟨rfl, rfl⟩, hG⟩
                      | 7, ho_ =>
                        obtain rfl := Option.some.inj ho_
                        obtain ⟨e48, eh6⟩ := (ht.done 6 _ rfl rfl).1
                        have hG := ht.has.drop
                        refine o_callf (vs := #[(S da.flatten)]) ca30 rfl (args1 e48) (lfill_c hG.all da.flatten (by omega)) ?_
                        rintro _ w305 ⟨rfl, hX303⟩
                        refine ⟨_, rfl, ?_⟩
                        have hH304 := hX303.of_all
                        exact ⟨_, ⟨rfl, rfl⟩, hH304⟩
                      | 8, ho_ =>
                        obtain rfl := Option.some.inj ho_
                        obtain ⟨e45, eh3⟩ := (ht.done 3 _ rfl rfl).1
                        obtain ⟨e47, eh5⟩ := (ht.done 5 _ rfl rfl).1
                        have hG := ht.has.drop
                        refine o_ownAddr Try.underlying53 ti9 e45 ho2 e47 (by omega) (by first | omega | (simp only [List.length_append, List.length_cons, List.length_nil, List.length_set]; omega)) fun b306 ho307 => ?_
                        exact ⟨_, ⟨b306, rfl, rfl, ho307⟩, hG⟩
                      | 9, ho_ =>
                        obtain rfl := Option.some.inj ho_
                        obtain ⟨e49, eh7⟩ := (ht.done 7 _ rfl rfl).1
                        obtain ⟨b306, e50, eh8, ho307⟩ := (ht.done 8 _ rfl rfl).1
                        have hG := ht.has
                        refine o_ownStore (f := sV) (l := nw) (a := (fillS da.flatten)) ti9 e50 e49 rfl ho307 (by first | omega | (simp only [List.length_append, List.length_cons, List.length_nil, List.length_set]; omega)) hG fun s308 w309 ho310 hH311 => ?_
                        exact ⟨_, ⟨s308, rfl, rfl, ho310⟩, hH311⟩
                      | i_ + 10, ho_ => exact absurd ho_ (by simp)
                    · intro vs312 hs313 w314 hT315 hH316
                      obtain ⟨e0_, eh0_⟩ := hT315 0 _ rfl
                      obtain ⟨e1_, eh1_⟩ := hT315 1 _ rfl
                      obtain ⟨e2_, eh2_⟩ := hT315 2 _ rfl
                      obtain ⟨e3_, eh3_⟩ := hT315 3 _ rfl
                      obtain ⟨e4_, eh4_⟩ := hT315 4 _ rfl
                      obtain ⟨e5_, eh5_⟩ := hT315 5 _ rfl
                      obtain ⟨e6_, eh6_⟩ := hT315 6 _ rfl
                      obtain ⟨e7_, eh7_⟩ := hT315 7 _ rfl
                      obtain ⟨b306, e8_, eh8_, ho307⟩ := hT315 8 _ rfl
                      obtain ⟨s308, e9_, eh9_, ho310⟩ := hT315 9 _ rfl
                      have hH317 : Has E w314 ([[Hp.one b2 (.cells #[(.int .i64 kd), (.int .i64 n), (.bool ot), dv, kv] 104 (0, 0))], sg, [Hp.one pb (.cells #[(.bool p.off), (.bool p.armed), (.int .i64 p.left), (.int .i64 p.uses)] 101 (0, 0))], h1, h3, [Hp.one qm (.cells #[v1, v2, v3] 189 (0, 0))], [Hp.one qb (.cells #[(.bool q.off), (.bool q.armed), (.int .i64 q.left), (.int .i64 q.uses)] 112 (0, 0))], R] ++ [s308]) := flow_back (cs := [s308]) hH316 (by show (hs313 0 ++ (hs313 1 ++ (hs313 2 ++ (hs313 3 ++ (hs313 4 ++ (hs313 5 ++ (hs313 6 ++ (hs313 7 ++ (hs313 8 ++ (hs313 9 ++ [])))))))))) = _; rw [eh0_, eh1_, eh2_, eh3_, eh4_, eh5_, eh6_, eh7_, eh8_, eh9_]; rfl)
                      generalize hr319 : puts vs312 _ 0 _ = r318
                      have e320_0 : r318 0 = (.pointer (some ⟨db, 0, none⟩)) := by rw [← hr319]; exact e19_0
                      have e320_1 : r318 1 = (.pointer (some ⟨qm, 0, none⟩)) := by rw [← hr319]; exact e19_1
                      have e320_2 : r318 2 = (.pointer (some ⟨qb, 0, none⟩)) := by rw [← hr319]; exact e19_2
                      have e320_3 : r318 3 = (.agg #[(.int .i64 kd), (.int .i64 n), (.bool ot), dv, kv]) := by rw [← hr319]; exact e19_3
                      have e320_7 : r318 7 = (.pointer (some ⟨b2, 0, none⟩)) := by rw [← hr319]; exact e19_7
                      have e320_8 : r318 8 = (.bool false) := by rw [← hr319]; exact e19_8
                      have e320_9 : r318 9 = (S da.flatten) := by rw [← hr319]; exact e19_9
                      have e320_10 : r318 10 = (.bool (decide (n < ((nw.length : Nat) : Int)))) := by rw [← hr319]; exact e19_10
                      have e320_16 : r318 16 = (.int .i64 0) := by rw [← hr319]; exact rfl
                      have e320_34 : r318 34 = (.int .i64 kd) := by rw [← hr319]; exact rfl
                      have e320_41 : r318 41 = (.bool (decide (64 < (da.flatten.length : Int)))) := by rw [← hr319]; exact rfl
                      have e320_77 : r318 77 = (.bool (decide (kd = 0))) := by rw [← hr319]; exact rfl
                      have e320_116 : r318 116 = (.bool (decide (kd = 1))) := by rw [← hr319]; exact rfl
                      have e320_137 : r318 137 = (.bool (decide (kd = 2))) := by rw [← hr319]; exact rfl
                      have e320_178 : r318 178 = (.bool (decide (kd = 3))) := by rw [← hr319]; exact rfl
                      have e320_193 : r318 193 = (.bool (decide (kd = 4))) := by rw [← hr319]; exact rfl
                      refine t_norm (hK302 _ _ ?_)
                      refine wp_seq_k fun K321 hK321 => ?_
                      have hH331 : Has E w314 [[Hp.one b2 (.cells #[(.int .i64 kd), (.int .i64 n), (.bool ot), dv, kv] 104 (0, 0))], sg, [Hp.one pb (.cells #[(.bool p.off), (.bool p.armed), (.int .i64 p.left), (.int .i64 p.uses)] 101 (0, 0))], h3, [Hp.one qm (.cells #[v1, v2, v3] 189 (0, 0))], [Hp.one qb (.cells #[(.bool q.off), (.bool q.armed), (.int .i64 q.left), (.int .i64 q.uses)] 112 (0, 0))], R, s308, h1] := Has.pick hH317 [0, 0, 0, 1, 1, 1, 1, 1, 0] (by kernel_rfl)
                      refine c_flow [[Hp.one b2 (.cells #[(.int .i64 kd), (.int .i64 n), (.bool ot), dv, kv] 104 (0, 0))], sg, [Hp.one pb (.cells #[(.bool p.off), (.bool p.armed), (.int .i64 p.left), (.int .i64 p.uses)] 101 (0, 0))], h3, [Hp.one qm (.cells #[v1, v2, v3] 189 (0, 0))], [Hp.one qb (.cells #[(.bool q.off), (.bool q.armed), (.int .i64 q.left), (.int .i64 q.uses)] 112 (0, 0))], R, s308] (fun i_ => match i_ with | 9 => h1 | _ => []) (fun i_ v_ h_ => match i_ with | 0 => v_ = (.pointer (some ⟨qm, 0, none⟩)) ∧ h_ = [] | 1 => v_ = (.pointer (some ⟨qm, 0, none⟩)) ∧ h_ = [] | 2 => v_ = (.pointer (some ⟨qm, 0, none⟩)) ∧ h_ = [] | 3 => v_ = v1 ∧ h_ = [] | 4 => v_ = (.pointer (some ⟨b2, 1, none⟩)) ∧ h_ = [] | 5 => v_ = (.int .i64 n) ∧ h_ = [] | 6 => v_ = (S da.flatten) ∧ h_ = [] | 7 => v_ = (S (fillS da.flatten)) ∧ h_ = [] | 8 => ∃ (b325 : Nat), v_ = (.pointer (some ⟨b325, (n).toNat, none⟩)) ∧ h_ = [] ∧ (OwnAt 9 v1 la.length (la.map sV) h1 b325) | 9 => ∃ (s327 : List Hp), v_ = undef ∧ h_ = s327 ∧ (Own 9 1 v1 (la.set ((n).toNat) (fillS da.flatten)).length ((la.set ((n).toNat) (fillS da.flatten)).map sV) s327) | _ => True) mixed (by kernel_rfl) (flow_has (cs := [h1]) hH331 rfl) ?_ ?_
                      · intro i_ o_ ho_ r' w' G hs_ ht
                        match i_, ho_ with
                        | 0, ho_ =>
                          obtain rfl := Option.some.inj ho_
                          have e1 : r' 1 = (.pointer (some ⟨qm, 0, none⟩)) := (ht.was 1 (by kernel_rfl)).trans e320_1
                          have hG := ht.has.drop
                          refine o_move (v := (.pointer (some ⟨qm, 0, none⟩))) e1 ?_
                          exact ⟨_, ⟨rfl, rfl⟩, hG⟩
                        | 1, ho_ =>
                          obtain rfl := Option.some.inj ho_
                          obtain ⟨e51, eh0⟩ := (ht.done 0 _ rfl rfl).1
                          have hG := ht.has.drop
                          refine o_nilCheck e51 ?_
                          exact ⟨_, ⟨rfl, rfl⟩, hG⟩
                        | 2, ho_ =>
                          obtain rfl := Option.some.inj ho_
                          obtain ⟨e52, eh1⟩ := (ht.done 1 _ rfl rfl).1
                          have hG := ht.has.drop
                          refine o_fieldAddr (k := 0) (fun _ => by kernel_rfl) e52 ?_
                          exact ⟨_, ⟨rfl, rfl⟩, hG⟩
                        | 3, ho_ =>
                          obtain rfl := Option.some.inj ho_
                          obtain ⟨e53, eh2⟩ := (ht.done 2 _ rfl rfl).1
                          have hG := ht.has.drop
                          refine o_load1 (v := v1) Try.underlying53 rfl e53 hG (ht.fr [Hp.one qm (.cells #[v1, v2, v3] 189 (0, 0))] (by simp)) (CellsAt.one rfl) ?_
                          exact ⟨_, ⟨rfl, rfl⟩, hG⟩
                        | 4, ho_ =>
                          obtain rfl := Option.some.inj ho_
                          have e7 : r' 7 = (.pointer (some ⟨b2, 0, none⟩)) := (ht.was 7 (by kernel_rfl)).trans e320_7
                          have hG := ht.has.drop
                          refine o_fieldAddr (k := 1) (fun _ => by kernel_rfl) e7 ?_
                          exact ⟨_, ⟨rfl, rfl⟩, hG⟩
                        | 5, ho_ =>
                          obtain rfl := Option.some.inj ho_
                          obtain ⟨e55, eh4⟩ := (ht.done 4 _ rfl rfl).1
                          have hG := ht.has.drop
                          refine o_load1 (v := (.int .i64 n)) Try.underlying3 rfl e55 hG (ht.fr [Hp.one b2 (.cells #[(.int .i64 kd), (.int .i64 n), (.bool ot), dv, kv] 104 (0, 0))] (by simp)) (CellsAt.one rfl) ?_
                          exact ⟨_, ⟨rfl, rfl⟩, hG⟩
                        | 6, ho_ =>
                          obtain rfl := Option.some.inj ho_
                          have e9 : r' 9 = (S da.flatten) := (ht.was 9 (by kernel_rfl)).trans e320_9
                          have hG := ht.has.drop
                          refine o_move (v := (S da.flatten)) e9 ?_
                          exact ⟨_, ⟨rfl, rfl⟩, hG⟩
                        | 7, ho_ =>
                          obtain rfl := Option.some.inj ho_
                          obtain ⟨e57, eh6⟩ := (ht.done 6 _ rfl rfl).1
                          have hG := ht.has.drop
                          refine o_callf (vs := #[(S da.flatten)]) ca30 rfl (args1 e57) (lfill_c hG.all da.flatten (by omega)) ?_
                          rintro _ w324 ⟨rfl, hX322⟩
                          refine ⟨_, rfl, ?_⟩
                          have hH323 := hX322.of_all
                          exact ⟨_, ⟨rfl, rfl⟩, hH323⟩
                        | 8, ho_ =>
                          obtain rfl := Option.some.inj ho_
                          obtain ⟨e54, eh3⟩ := (ht.done 3 _ rfl rfl).1
                          obtain ⟨e56, eh5⟩ := (ht.done 5 _ rfl rfl).1
                          have hG := ht.has.drop
                          refine o_ownAddr Try.underlying53 ti9 e54 ho1 e56 (by omega) (by first | omega | (simp only [List.length_append, List.length_cons, List.length_nil, List.length_set]; omega)) fun b325 ho326 => ?_
                          exact ⟨_, ⟨b325, rfl, rfl, ho326⟩, hG⟩
                        | 9, ho_ =>
                          obtain rfl := Option.some.inj ho_
                          obtain ⟨e58, eh7⟩ := (ht.done 7 _ rfl rfl).1
                          obtain ⟨b325, e59, eh8, ho326⟩ := (ht.done 8 _ rfl rfl).1
                          have hG := ht.has
                          refine o_ownStore (f := sV) (l := la) (a := (fillS da.flatten)) ti9 e59 e58 rfl ho326 (by first | omega | (simp only [List.length_append, List.length_cons, List.length_nil, List.length_set]; omega)) hG fun s327 w328 ho329 hH330 => ?_
                          exact ⟨_, ⟨s327, rfl, rfl, ho329⟩, hH330⟩
                        | i_ + 10, ho_ => exact absurd ho_ (by simp)
                      · intro vs331 hs332 w333 hT334 hH335
                        obtain ⟨e0_, eh0_⟩ := hT334 0 _ rfl
                        obtain ⟨e1_, eh1_⟩ := hT334 1 _ rfl
                        obtain ⟨e2_, eh2_⟩ := hT334 2 _ rfl
                        obtain ⟨e3_, eh3_⟩ := hT334 3 _ rfl
                        obtain ⟨e4_, eh4_⟩ := hT334 4 _ rfl
                        obtain ⟨e5_, eh5_⟩ := hT334 5 _ rfl
                        obtain ⟨e6_, eh6_⟩ := hT334 6 _ rfl
                        obtain ⟨e7_, eh7_⟩ := hT334 7 _ rfl
                        obtain ⟨b325, e8_, eh8_, ho326⟩ := hT334 8 _ rfl
                        obtain ⟨s327, e9_, eh9_, ho329⟩ := hT334 9 _ rfl
                        have hH336 : Has E w333 ([[Hp.one b2 (.cells #[(.int .i64 kd), (.int .i64 n), (.bool ot), dv, kv] 104 (0, 0))], sg, [Hp.one pb (.cells #[(.bool p.off), (.bool p.armed), (.int .i64 p.left), (.int .i64 p.uses)] 101 (0, 0))], h3, [Hp.one qm (.cells #[v1, v2, v3] 189 (0, 0))], [Hp.one qb (.cells #[(.bool q.off), (.bool q.armed), (.int .i64 q.left), (.int .i64 q.uses)] 112 (0, 0))], R, s308] ++ [s327]) := flow_back (cs := [s327]) hH335 (by show (hs332 0 ++ (hs332 1 ++ (hs332 2 ++ (hs332 3 ++ (hs332 4 ++ (hs332 5 ++ (hs332 6 ++ (hs332 7 ++ (hs332 8 ++ (hs332 9 ++ [])))))))))) = _; rw [eh0_, eh1_, eh2_, eh3_, eh4_, eh5_, eh6_, eh7_, eh8_, eh9_]; rfl)
                        generalize hr338 : puts vs331 _ 0 _ = r337
                        have e339_0 : r337 0 = (.pointer (some ⟨db, 0, none⟩)) := by rw [← hr338]; exact e320_0
                        have e339_1 : r337 1 = (.pointer (some ⟨qm, 0, none⟩)) := by rw [← hr338]; exact e320_1
                        have e339_2 : r337 2 = (.pointer (some ⟨qb, 0, none⟩)) := by rw [← hr338]; exact e320_2
                        have e339_3 : r337 3 = (.agg #[(.int .i64 kd), (.int .i64 n), (.bool ot), dv, kv]) := by rw [← hr338]; exact e320_3
                        have e339_7 : r337 7 = (.pointer (some ⟨b2, 0, none⟩)) := by rw [← hr338]; exact e320_7
                        have e339_8 : r337 8 = (.bool false) := by rw [← hr338]; exact e320_8
                        have e339_9 : r337 9 = (S da.flatten) := by rw [← hr338]; exact e320_9
                        have e339_10 : r337 10 = (.bool (decide (n < ((nw.length : Nat) : Int)))) := by rw [← hr338]; exact e320_10
                        have e339_16 : r337 16 = (.int .i64 0) := by rw [← hr338]; exact e320_16
                        have e339_34 : r337 34 = (.int .i64 kd) := by rw [← hr338]; exact e320_34
                        have e339_41 : r337 41 = (.bool (decide (64 < (da.flatten.length : Int)))) := by rw [← hr338]; exact e320_41
                        have e339_77 : r337 77 = (.bool (decide (kd = 0))) := by rw [← hr338]; exact e320_77
                        have e339_116 : r337 116 = (.bool (decide (kd = 1))) := by rw [← hr338]; exact e320_116
                        have e339_137 : r337 137 = (.bool (decide (kd = 2))) := by rw [← hr338]; exact e320_137
                        have e339_178 : r337 178 = (.bool (decide (kd = 3))) := by rw [← hr338]; exact e320_178
                        have e339_193 : r337 193 = (.bool (decide (kd = 4))) := by rw [← hr338]; exact e320_193
                        refine t_norm (hK321 _ _ ?_)
                        have hH348 : Has E w333 [[Hp.one b2 (.cells #[(.int .i64 kd), (.int .i64 n), (.bool ot), dv, kv] 104 (0, 0))], sg, [Hp.one pb (.cells #[(.bool p.off), (.bool p.armed), (.int .i64 p.left), (.int .i64 p.uses)] 101 (0, 0))], h3, [Hp.one qb (.cells #[(.bool q.off), (.bool q.armed), (.int .i64 q.left), (.int .i64 q.uses)] 112 (0, 0))], R, s308, s327, [Hp.one qm (.cells #[v1, v2, v3] 189 (0, 0))]] := Has.pick hH336 [0, 0, 0, 0, 1, 1, 1, 1, 0] (by kernel_rfl)
                        refine c_flow2 [[Hp.one b2 (.cells #[(.int .i64 kd), (.int .i64 n), (.bool ot), dv, kv] 104 (0, 0))], sg, [Hp.one pb (.cells #[(.bool p.off), (.bool p.armed), (.int .i64 p.left), (.int .i64 p.uses)] 101 (0, 0))], h3, [Hp.one qb (.cells #[(.bool q.off), (.bool q.armed), (.int .i64 q.left), (.int .i64 q.uses)] 112 (0, 0))], R, s308, s327] (fun i_ => match i_ with | 10 => [Hp.one qm (.cells #[v1, v2, v3] 189 (0, 0))] | _ => []) (fun i_ v_ h_ m_ => match i_ with | 0 => v_ = (.pointer (some ⟨qm, 0, none⟩)) ∧ h_ = [] | 1 => v_ = (.pointer (some ⟨qm, 0, none⟩)) ∧ h_ = [] | 2 => v_ = (.pointer (some ⟨qm, 0, none⟩)) ∧ h_ = [] | 3 => v_ = (.pointer (some ⟨qm, 2, none⟩)) ∧ h_ = [] | 4 => v_ = v3 ∧ h_ = [] | 5 => v_ = (.pointer (some ⟨b2, 1, none⟩)) ∧ h_ = [] | 6 => v_ = (.int .i64 n) ∧ h_ = [] | 7 => ∃ (v340 : Value) (s341 : List Hp), v_ = v340 ∧ h_ = s341 ∧ (Own 3 1 v340 (withS n (!false) ls).length ((withS n (!false) ls).map iV) s341) | 8 => v_ = (.pointer (some ⟨qm, 0, none⟩)) ∧ h_ = [] | 9 => v_ = (.pointer (some ⟨qm, 2, none⟩)) ∧ h_ = [] | 10 => ∃ (v340 : Value), m_ 7 = v340 ∧ v_ = undef ∧ h_ = [Hp.one qm (.cells #[v1, v2, v340] 189 (0, 0))] | _ => True) mixed (by kernel_rfl) (flow_has (cs := [[Hp.one qm (.cells #[v1, v2, v3] 189 (0, 0))]]) hH348 rfl) ?_ ?_
                        · intro i_ o_ ho_ r' w' G hs_ ht
                          match i_, ho_ with
                          | 0, ho_ =>
                            obtain rfl := Option.some.inj ho_
                            have e1 : r' 1 = (.pointer (some ⟨qm, 0, none⟩)) := (ht.was 1 (by kernel_rfl)).trans e339_1
                            have hG := ht.has.drop
                            refine o_move (v := (.pointer (some ⟨qm, 0, none⟩))) e1 ?_
                            exact ⟨_, ⟨rfl, rfl⟩, hG⟩
                          | 1, ho_ =>
                            obtain rfl := Option.some.inj ho_
                            have e1 : r' 1 = (.pointer (some ⟨qm, 0, none⟩)) := (ht.was 1 (by kernel_rfl)).trans e339_1
                            have hG := ht.has.drop
                            refine o_move (v := (.pointer (some ⟨qm, 0, none⟩))) e1 ?_
                            exact ⟨_, ⟨rfl, rfl⟩, hG⟩
                          | 2, ho_ =>
                            obtain rfl := Option.some.inj ho_
                            obtain ⟨e61, eh1⟩ := (ht.done 1 _ rfl rfl).1
                            have hG := ht.has.drop
                            refine o_nilCheck e61 ?_
                            exact ⟨_, ⟨rfl, rfl⟩, hG⟩
                          | 3, ho_ =>
                            obtain rfl := Option.some.inj ho_
                            obtain ⟨e62, eh2⟩ := (ht.done 2 _ rfl rfl).1
                            have hG := ht.has.drop
                            refine o_fieldAddr (k := 2) (fun _ => by kernel_rfl) e62 ?_
                            exact ⟨_, ⟨rfl, rfl⟩, hG⟩
                          | 4, ho_ =>
                            obtain rfl := Option.some.inj ho_
                            obtain ⟨e63, eh3⟩ := (ht.done 3 _ rfl rfl).1
                            have hG := ht.has.drop
                            refine o_load1 (v := v3) Try.underlying54 rfl e63 hG (ht.todo 10 rfl) (CellsAt.one rfl) ?_
                            exact ⟨_, ⟨rfl, rfl⟩, hG⟩
                          | 5, ho_ =>
                            obtain rfl := Option.some.inj ho_
                            have e7 : r' 7 = (.pointer (some ⟨b2, 0, none⟩)) := (ht.was 7 (by kernel_rfl)).trans e339_7
                            have hG := ht.has.drop
                            refine o_fieldAddr (k := 1) (fun _ => by kernel_rfl) e7 ?_
                            exact ⟨_, ⟨rfl, rfl⟩, hG⟩
                          | 6, ho_ =>
                            obtain rfl := Option.some.inj ho_
                            obtain ⟨e65, eh5⟩ := (ht.done 5 _ rfl rfl).1
                            have hG := ht.has.drop
                            refine o_load1 (v := (.int .i64 n)) Try.underlying3 rfl e65 hG (ht.fr [Hp.one b2 (.cells #[(.int .i64 kd), (.int .i64 n), (.bool ot), dv, kv] 104 (0, 0))] (by simp)) (CellsAt.one rfl) ?_
                            exact ⟨_, ⟨rfl, rfl⟩, hG⟩
                          | 7, ho_ =>
                            obtain rfl := Option.some.inj ho_
                            obtain ⟨e64, eh4⟩ := (ht.done 4 _ rfl rfl).1
                            obtain ⟨e66, eh6⟩ := (ht.done 6 _ rfl rfl).1
                            have hG := ht.has.drop
                            refine o_callf (vs := #[v3, (.int .i64 n), (.bool false)]) ca42 rfl (args3 e64 e66 rfl) (with_c hG.all (l := ls) (ho3.sl.mono (ht.fr h3 (by simp))) (by omega) n false) ?_
                            rintro _ w345 ⟨v340, s341, rfl, ho342, hX343⟩
                            refine ⟨_, rfl, ?_⟩
                            have hH344 := hX343.of_all1
                            exact ⟨_, ⟨v340, s341, rfl, rfl, ho342⟩, hH344⟩
                          | 8, ho_ =>
                            obtain rfl := Option.some.inj ho_
                            obtain ⟨e60, eh0⟩ := (ht.done 0 _ rfl rfl).1
                            obtain ⟨v340, s341, e67, eh7, ho342⟩ := (ht.done 7 _ rfl rfl).1
                            have hG := ht.has.drop
                            refine o_nilCheck e60 ?_
                            exact ⟨_, ⟨rfl, rfl⟩, hG⟩
                          | 9, ho_ =>
                            obtain rfl := Option.some.inj ho_
                            obtain ⟨v340, s341, e67, eh7, ho342⟩ := (ht.done 7 _ rfl rfl).1
                            obtain ⟨e68, eh8⟩ := (ht.done 8 _ rfl rfl).1
                            have hG := ht.has.drop
                            refine o_fieldAddr (k := 2) (fun _ => by kernel_rfl) e68 ?_
                            exact ⟨_, ⟨rfl, rfl⟩, hG⟩
                          | 10, ho_ =>
                            obtain rfl := Option.some.inj ho_
                            obtain ⟨v340, s341, e67, eh7, ho342⟩ := (ht.done 7 _ rfl rfl).1
                            obtain ⟨e69, eh9⟩ := (ht.done 9 _ rfl rfl).1
                            have hG := ht.has
                            refine o_store1 (c' := #[v1, v2, v340]) ti54 e69 e67 ho342.one (by simp) rfl (hG.front 0 rfl) fun w346 hH347 => ?_
                            exact ⟨_, ⟨v340, e67, rfl, rfl⟩, hH347⟩
                          | i_ + 11, ho_ => exact absurd ho_ (by simp)
                        · intro vs348 hs349 w350 hT351 hH352
                          obtain ⟨e0_, eh0_⟩ := hT351 0 _ rfl
                          obtain ⟨e1_, eh1_⟩ := hT351 1 _ rfl
                          obtain ⟨e2_, eh2_⟩ := hT351 2 _ rfl
                          obtain ⟨e3_, eh3_⟩ := hT351 3 _ rfl
                          obtain ⟨e4_, eh4_⟩ := hT351 4 _ rfl
                          obtain ⟨e5_, eh5_⟩ := hT351 5 _ rfl
                          obtain ⟨e6_, eh6_⟩ := hT351 6 _ rfl
                          obtain ⟨v340, s341, e7_, eh7_, ho342⟩ := hT351 7 _ rfl
                          obtain ⟨e8_, eh8_⟩ := hT351 8 _ rfl
                          obtain ⟨e9_, eh9_⟩ := hT351 9 _ rfl
                          obtain ⟨v340_10, q10_7, e10_, eh10_⟩ := hT351 10 _ rfl
                          have z_ : v340 = v340_10 := Eq.trans (Eq.symm e7_) q10_7
                          subst z_
                          have hH353 : Has E w350 ([[Hp.one b2 (.cells #[(.int .i64 kd), (.int .i64 n), (.bool ot), dv, kv] 104 (0, 0))], sg, [Hp.one pb (.cells #[(.bool p.off), (.bool p.armed), (.int .i64 p.left), (.int .i64 p.uses)] 101 (0, 0))], h3, [Hp.one qb (.cells #[(.bool q.off), (.bool q.armed), (.int .i64 q.left), (.int .i64 q.uses)] 112 (0, 0))], R, s308, s327] ++ [s341, [Hp.one qm (.cells #[v1, v2, v340] 189 (0, 0))]]) := flow_back (cs := [s341, [Hp.one qm (.cells #[v1, v2, v340] 189 (0, 0))]]) hH352 (by show (hs349 0 ++ (hs349 1 ++ (hs349 2 ++ (hs349 3 ++ (hs349 4 ++ (hs349 5 ++ (hs349 6 ++ (hs349 7 ++ (hs349 8 ++ (hs349 9 ++ (hs349 10 ++ []))))))))))) = _; rw [eh0_, eh1_, eh2_, eh3_, eh4_, eh5_, eh6_, eh7_, eh8_, eh9_, eh10_]; rfl)
                          generalize hr355 : puts vs348 _ 0 _ = r354
                          have e356_0 : r354 0 = (.pointer (some ⟨db, 0, none⟩)) := by rw [← hr355]; exact e339_0
                          have e356_1 : r354 1 = (.pointer (some ⟨qm, 0, none⟩)) := by rw [← hr355]; exact e339_1
                          have e356_2 : r354 2 = (.pointer (some ⟨qb, 0, none⟩)) := by rw [← hr355]; exact e339_2
                          have e356_3 : r354 3 = (.agg #[(.int .i64 kd), (.int .i64 n), (.bool ot), dv, kv]) := by rw [← hr355]; exact e339_3
                          have e356_7 : r354 7 = (.pointer (some ⟨b2, 0, none⟩)) := by rw [← hr355]; exact e339_7
                          have e356_8 : r354 8 = (.bool false) := by rw [← hr355]; exact e339_8
                          have e356_9 : r354 9 = (S da.flatten) := by rw [← hr355]; exact e339_9
                          have e356_10 : r354 10 = (.bool (decide (n < ((nw.length : Nat) : Int)))) := by rw [← hr355]; exact e339_10
                          have e356_16 : r354 16 = (.int .i64 0) := by rw [← hr355]; exact e339_16
                          have e356_34 : r354 34 = (.int .i64 kd) := by rw [← hr355]; exact e339_34
                          have e356_41 : r354 41 = (.bool (decide (64 < (da.flatten.length : Int)))) := by rw [← hr355]; exact e339_41
                          have e356_77 : r354 77 = (.bool (decide (kd = 0))) := by rw [← hr355]; exact e339_77
                          have e356_116 : r354 116 = (.bool (decide (kd = 1))) := by rw [← hr355]; exact e339_116
                          have e356_137 : r354 137 = (.bool (decide (kd = 2))) := by rw [← hr355]; exact e339_137
                          have e356_178 : r354 178 = (.bool (decide (kd = 3))) := by rw [← hr355]; exact e339_178
                          have e356_193 : r354 193 = (.bool (decide (kd = 4))) := by rw [← hr355]; exact e339_193
                          refine t_norm (hK284 _ _ ?_)
                          refine wp_seq_k fun K357 hK357 => ?_
                          refine c_region ?_
                          refine s_op (o_move (v := (.pointer (some ⟨db, 0, none⟩))) e356_0 ?_)
                          refine s_op (o_fieldAddr (k := 1) (fun _ => by kernel_rfl) e356_7 ?_)
                          refine s_op (o_load1 (v := (.int .i64 n)) Try.underlying3 rfl rfl hH353 (seg_sub 0 rfl) (CellsAt.one rfl) ?_)
                          refine s_op (o_move (v := (S da.flatten)) e356_9 ?_)
                          refine s_op (o_callf (vs := #[(.pointer (some ⟨db, 0, none⟩)), (.int .i64 n), (S da.flatten)]) ca52 rfl (args3 rfl rfl rfl) (put_d (p := p) (la := la) (lo := lo) ((hH353.front 2 rfl).front 2 rfl).all2 hd n da.flatten (by omega)) ?_)
                          rintro _ w362 ⟨sg358, rfl, hd359, hX360⟩
                          refine ⟨_, rfl, ?_⟩
                          have hH361 : Has E w362 [sg358, [Hp.one pb (.cells #[(.bool p.off), (.bool p.armed), (.int .i64 p.left), (.int .i64 p.uses)] 101 (0, 0))], [Hp.one b2 (.cells #[(.int .i64 kd), (.int .i64 n), (.bool ot), dv, kv] 104 (0, 0))], h3, [Hp.one qb (.cells #[(.bool q.off), (.bool q.armed), (.int .i64 q.left), (.int .i64 q.uses)] 112 (0, 0))], R, s308, s327, s341, [Hp.one qm (.cells #[v1, v2, v340] 189 (0, 0))]] := hX360.of_all2
                          refine s_op (o_move (v := (.int .i64 0)) e356_16 ?_)
                          refine s_op (o_eql (a := putE la.length n da.flatten) (b := 0) rfl rfl ?_)
                          refine s_op (o_assign (v := (.bool (decide (putE la.length n da.flatten = 0)))) rfl ?_)
                          refine s_nil ?_
                          refine t_norm (hK357 _ _ ?_)
                          refine wp_ret ?_
                          refine b_ret (t_ret (c_ret1 Try.results55  (v := (.bool (decide (putE la.length n da.flatten = 0)))) rfl ?_))
                          have hH363 : Has E w362 [sg358, [Hp.one pb (.cells #[(.bool p.off), (.bool p.armed), (.int .i64 p.left), (.int .i64 p.uses)] 101 (0, 0))], s327, s308, s341, [Hp.one qm (.cells #[v1, v2, v340] 189 (0, 0))], [Hp.one qb (.cells #[(.bool q.off), (.bool q.armed), (.int .i64 q.left), (.int .i64 q.uses)] 112 (0, 0))], R] := Has.pick hH361 [0, 0, 5, 4, 4, 4, 2, 2] (by kernel_rfl)
                          have hS := hsim.put_ok (n := n) (s := da.flatten) (by omega) (show inS n la.length from ⟨by omega, by omega⟩)
                          exact ⟨_, _, _, p, _, _, _, _, _, _, _, _, _, by rw [decide_eq_true (show _ = _ from hS.2.1)], hd359, (putA_len _ _ _), hS.1, hpr.mono (by omega), (by rw [hS.2.2]; exact ho329), ho310, ho342, hH363⟩
  · -- not: 0 ≤ n
    refine c_flow3 [[Hp.one b2 (.cells #[(.int .i64 kd), (.int .i64 n), (.bool ot), dv, kv] 104 (0, 0))], sg, [Hp.one pb (.cells #[(.bool p.off), (.bool p.armed), (.int .i64 p.left), (.int .i64 p.uses)] 101 (0, 0))], h1, h2, h3, [Hp.one qm (.cells #[v1, v2, v3] 189 (0, 0))], [Hp.one qb (.cells #[(.bool q.off), (.bool q.armed), (.int .i64 q.left), (.int .i64 q.uses)] 112 (0, 0))], R] (fun i_ => match i_ with | _ => []) (fun i_ v_ h_ m_ => match i_ with | 0 => v_ = (.pointer (some ⟨b2, 1, none⟩)) ∧ h_ = [] | 1 => v_ = (.int .i64 n) ∧ h_ = [] | 2 => v_ = (.bool (decide (0 ≤ n))) ∧ h_ = [] | 3 => v_ = (.bool (decide (0 ≤ n))) ∧ h_ = [] | 4 => v_ = undef ∧ h_ = [] | 5 => v_ = undef ∧ h_ = [] | 6 => v_ = undef ∧ h_ = [] | 7 => v_ = undef ∧ h_ = [] | 8 => v_ = undef ∧ h_ = [] | 9 => v_ = undef ∧ h_ = [] | 10 => v_ = undef ∧ h_ = [] | 11 => v_ = undef ∧ h_ = [] | 12 => v_ = (.bool false) ∧ h_ = [] | 13 => v_ = (.bool false) ∧ h_ = [] | _ => True) mixed (by kernel_rfl) (flow_has (cs := []) hH7 rfl) ?_ ?_
    · intro i_ o_ ho_ r' w' G hs_ ht
      match i_, ho_ with
      | 0, ho_ =>
        obtain rfl := Option.some.inj ho_
        have e7 : r' 7 = (.pointer (some ⟨b2, 0, none⟩)) := ht.was 7 (by kernel_rfl)
        have hG := ht.has.drop
        refine GOK.free rfl ?_
        refine o_fieldAddr (k := 1) (fun _ => by kernel_rfl) e7 ?_
        exact ⟨_, ⟨rfl, rfl⟩, hG⟩
      | 1, ho_ =>
        obtain rfl := Option.some.inj ho_
        obtain ⟨e20, eh0⟩ := (ht.done 0 _ rfl rfl).1
        have hG := ht.has.drop
        refine GOK.free rfl ?_
        refine o_load1 (v := (.int .i64 n)) Try.underlying3 rfl e20 hG (ht.fr [Hp.one b2 (.cells #[(.int .i64 kd), (.int .i64 n), (.bool ot), dv, kv] 104 (0, 0))] (by simp)) (CellsAt.one rfl) ?_
        exact ⟨_, ⟨rfl, rfl⟩, hG⟩
      | 2, ho_ =>
        obtain rfl := Option.some.inj ho_
        obtain ⟨e21, eh1⟩ := (ht.done 1 _ rfl rfl).1
        have hG := ht.has.drop
        refine GOK.free rfl ?_
        refine o_geq (a := n) (b := 0) e21 rfl ?_
        exact ⟨_, ⟨rfl, rfl⟩, hG⟩
      | 3, ho_ =>
        obtain rfl := Option.some.inj ho_
        obtain ⟨e22, eh2⟩ := (ht.done 2 _ rfl rfl).1
        have hG := ht.has.drop
        refine GOK.free rfl ?_
        refine o_move (v := (.bool (decide (0 ≤ n)))) e22 ?_
        exact ⟨_, ⟨rfl, rfl⟩, hG⟩
      | 4, ho_ =>
        obtain rfl := Option.some.inj ho_
        obtain ⟨e23, eh3⟩ := (ht.done 3 _ rfl rfl).1
        have hG := ht.has.drop
        refine GOK.off (b' := false) rfl rfl (Eq.trans e23 (congrArg Value.bool (decide_eq_false h10))) rfl ?_
        exact ⟨_, ⟨rfl, rfl⟩, ht.has⟩
      | 5, ho_ =>
        obtain rfl := Option.some.inj ho_
        obtain ⟨e23, eh3⟩ := (ht.done 3 _ rfl rfl).1
        have hG := ht.has.drop
        refine GOK.off (b' := false) rfl rfl (Eq.trans e23 (congrArg Value.bool (decide_eq_false h10))) rfl ?_
        exact ⟨_, ⟨rfl, rfl⟩, ht.has⟩
      | 6, ho_ =>
        obtain rfl := Option.some.inj ho_
        obtain ⟨e23, eh3⟩ := (ht.done 3 _ rfl rfl).1
        have hG := ht.has.drop
        refine GOK.off (b' := false) rfl rfl (Eq.trans e23 (congrArg Value.bool (decide_eq_false h10))) rfl ?_
        exact ⟨_, ⟨rfl, rfl⟩, ht.has⟩
      | 7, ho_ =>
        obtain rfl := Option.some.inj ho_
        obtain ⟨e23, eh3⟩ := (ht.done 3 _ rfl rfl).1
        have hG := ht.has.drop
        refine GOK.off (b' := false) rfl rfl (Eq.trans e23 (congrArg Value.bool (decide_eq_false h10))) rfl ?_
        exact ⟨_, ⟨rfl, rfl⟩, ht.has⟩
      | 8, ho_ =>
        obtain rfl := Option.some.inj ho_
        obtain ⟨e23, eh3⟩ := (ht.done 3 _ rfl rfl).1
        have hG := ht.has.drop
        refine GOK.off (b' := false) rfl rfl (Eq.trans e23 (congrArg Value.bool (decide_eq_false h10))) rfl ?_
        exact ⟨_, ⟨rfl, rfl⟩, ht.has⟩
      | 9, ho_ =>
        obtain rfl := Option.some.inj ho_
        obtain ⟨e23, eh3⟩ := (ht.done 3 _ rfl rfl).1
        have hG := ht.has.drop
        refine GOK.off (b' := false) rfl rfl (Eq.trans e23 (congrArg Value.bool (decide_eq_false h10))) rfl ?_
        exact ⟨_, ⟨rfl, rfl⟩, ht.has⟩
      | 10, ho_ =>
        obtain rfl := Option.some.inj ho_
        obtain ⟨e23, eh3⟩ := (ht.done 3 _ rfl rfl).1
        have hG := ht.has.drop
        refine GOK.off (b' := false) rfl rfl (Eq.trans e23 (congrArg Value.bool (decide_eq_false h10))) rfl ?_
        exact ⟨_, ⟨rfl, rfl⟩, ht.has⟩
      | 11, ho_ =>
        obtain rfl := Option.some.inj ho_
        obtain ⟨e23, eh3⟩ := (ht.done 3 _ rfl rfl).1
        have hG := ht.has.drop
        refine GOK.off (b' := false) rfl rfl (Eq.trans e23 (congrArg Value.bool (decide_eq_false h10))) rfl ?_
        exact ⟨_, ⟨rfl, rfl⟩, ht.has⟩
      | 12, ho_ =>
        obtain rfl := Option.some.inj ho_
        obtain ⟨e23, eh3⟩ := (ht.done 3 _ rfl rfl).1
        obtain ⟨e31, eh11⟩ := (ht.done 11 _ rfl rfl).1
        have hG := ht.has.drop
        refine GOK.free rfl ?_
        refine o_pick_f (u := (.bool false)) ((e23 : _ = _).trans (congrArg Value.bool (decide_eq_false h10))) rfl ?_
        exact ⟨_, ⟨rfl, rfl⟩, hG⟩
      | 13, ho_ =>
        obtain rfl := Option.some.inj ho_
        obtain ⟨e32, eh12⟩ := (ht.done 12 _ rfl rfl).1
        have hG := ht.has.drop
        refine GOK.free rfl ?_
        refine o_assign (v := (.bool false)) e32 ?_
        exact ⟨_, ⟨rfl, rfl⟩, hG⟩
      | i_ + 14, ho_ => exact absurd ho_ (by simp)
    · intro vs364 hs365 w366 hT367 hH368
      obtain ⟨e0_, eh0_⟩ := hT367 0 _ rfl
      obtain ⟨e1_, eh1_⟩ := hT367 1 _ rfl
      obtain ⟨e2_, eh2_⟩ := hT367 2 _ rfl
      obtain ⟨e3_, eh3_⟩ := hT367 3 _ rfl
      obtain ⟨e4_, eh4_⟩ := hT367 4 _ rfl
      obtain ⟨e5_, eh5_⟩ := hT367 5 _ rfl
      obtain ⟨e6_, eh6_⟩ := hT367 6 _ rfl
      obtain ⟨e7_, eh7_⟩ := hT367 7 _ rfl
      obtain ⟨e8_, eh8_⟩ := hT367 8 _ rfl
      obtain ⟨e9_, eh9_⟩ := hT367 9 _ rfl
      obtain ⟨e10_, eh10_⟩ := hT367 10 _ rfl
      obtain ⟨e11_, eh11_⟩ := hT367 11 _ rfl
      obtain ⟨e12_, eh12_⟩ := hT367 12 _ rfl
      obtain ⟨e13_, eh13_⟩ := hT367 13 _ rfl
      have hH369 : Has E w366 ([[Hp.one b2 (.cells #[(.int .i64 kd), (.int .i64 n), (.bool ot), dv, kv] 104 (0, 0))], sg, [Hp.one pb (.cells #[(.bool p.off), (.bool p.armed), (.int .i64 p.left), (.int .i64 p.uses)] 101 (0, 0))], h1, h2, h3, [Hp.one qm (.cells #[v1, v2, v3] 189 (0, 0))], [Hp.one qb (.cells #[(.bool q.off), (.bool q.armed), (.int .i64 q.left), (.int .i64 q.uses)] 112 (0, 0))], R] ++ []) := flow_back (cs := []) hH368 (by show (hs365 0 ++ (hs365 1 ++ (hs365 2 ++ (hs365 3 ++ (hs365 4 ++ (hs365 5 ++ (hs365 6 ++ (hs365 7 ++ (hs365 8 ++ (hs365 9 ++ (hs365 10 ++ (hs365 11 ++ (hs365 12 ++ (hs365 13 ++ [])))))))))))))) = _; rw [eh0_, eh1_, eh2_, eh3_, eh4_, eh5_, eh6_, eh7_, eh8_, eh9_, eh10_, eh11_, eh12_, eh13_]; rfl)
      generalize hr371 : puts vs364 _ 0 _ = r370
      have e372_0 : r370 0 = (.pointer (some ⟨db, 0, none⟩)) := by rw [← hr371]; exact rfl
      have e372_1 : r370 1 = (.pointer (some ⟨qm, 0, none⟩)) := by rw [← hr371]; exact rfl
      have e372_2 : r370 2 = (.pointer (some ⟨qb, 0, none⟩)) := by rw [← hr371]; exact rfl
      have e372_3 : r370 3 = (.agg #[(.int .i64 kd), (.int .i64 n), (.bool ot), dv, kv]) := by rw [← hr371]; exact rfl
      have e372_7 : r370 7 = (.pointer (some ⟨b2, 0, none⟩)) := by rw [← hr371]; exact rfl
      have e372_8 : r370 8 = (.bool false) := by rw [← hr371]; exact rfl
      have e372_9 : r370 9 = (S da.flatten) := by rw [← hr371]; exact rfl
      have e372_10 : r370 10 = (.bool false) := by rw [← hr371]; exact e13_
      refine t_norm (hK9 _ _ ?_)
      refine wp_seq_k fun K373 hK373 => ?_
      refine wp_seq_k fun K374 hK374 => ?_
      refine c_region ?_
      refine s_op (o_fieldAddr (k := 0) (fun _ => by kernel_rfl) e372_7 ?_)
      refine s_op (o_load1 (v := (.int .i64 kd)) Try.underlying3 rfl rfl hH369 (seg_sub 0 rfl) (CellsAt.one rfl) ?_)
      refine s_nil ?_
      refine t_norm (hK374 _ _ ?_)
      refine wp_block ?_
      refine wp_seq_k fun K375 hK375 => ?_
      refine c_region ?_
      refine s_op (o_eql (a := kd) (b := 0) rfl rfl ?_)
      refine s_op (o_assign (v := (.bool (decide (kd = 0)))) rfl ?_)
      refine s_nil ?_
      refine t_norm (hK375 _ _ ?_)
      refine c_cond rfl (fun h376 => ?_) (fun h376 => ?_)
      · -- kd = 0
        refine wp_seq_k fun K377 hK377 => ?_
        refine c_region ?_
        refine s_op (o_assign (v := (.int .i64 0)) rfl ?_)
        refine s_nil ?_
        refine t_norm (hK377 _ _ ?_)
        refine wp_seq_k fun K378 hK378 => ?_
        refine wp_seq_k fun K379 hK379 => ?_
        refine c_region ?_
        refine s_op (o_move (v := (.pointer (some ⟨qb, 0, none⟩))) e372_2 ?_)
        refine s_op (o_callf (vs := #[(.pointer (some ⟨qb, 0, none⟩))]) ca104 rfl (args1 rfl) (muse_c (q := q) (hH369.front 7 rfl).all1 hok_.2) ?_)
        rintro _ w382 ⟨rfl, hX380⟩
        refine ⟨_, rfl, ?_⟩
        have hH381 : Has E w382 [[Hp.one qb (.cells #[(.bool (useM q).off), (.bool (useM q).armed), (.int .i64 (useM q).left), (.int .i64 (useM q).uses)] 112 (0, 0))], [Hp.one b2 (.cells #[(.int .i64 kd), (.int .i64 n), (.bool ot), dv, kv] 104 (0, 0))], sg, [Hp.one pb (.cells #[(.bool p.off), (.bool p.armed), (.int .i64 p.left), (.int .i64 p.uses)] 101 (0, 0))], h1, h2, h3, [Hp.one qm (.cells #[v1, v2, v3] 189 (0, 0))], R] := hX380.of_all1
        refine s_op (o_not rfl ?_)
        refine s_nil ?_
        refine t_norm (hK379 _ _ ?_)
        refine c_condb rfl (fun h383 => ?_) (fun h383 => ?_)
        · -- !(useMB q)
          have h383_n : (useMB q) = false := by simpa using h383
          refine c_region ?_
          refine s_op (o_assign (v := (.int .i64 6)) rfl ?_)
          refine s_nil ?_
          refine t_norm (hK378 _ _ ?_)
          refine wp_seq_k fun K384 hK384 => ?_
          refine c_region ?_
          refine s_op (o_move (v := (.pointer (some ⟨db, 0, none⟩))) e372_0 ?_)
          refine s_op (o_fieldAddr (k := 1) (fun _ => by kernel_rfl) e372_7 ?_)
          refine s_op (o_load1 (v := (.int .i64 n)) Try.underlying3 rfl rfl hH381 (seg_sub 1 rfl) (CellsAt.one rfl) ?_)
          refine s_op (o_fieldAddr (k := 3) (fun _ => by kernel_rfl) e372_7 ?_)
          refine s_op (o_load1 (v := dv) Try.underlying53 rfl rfl hH381 (seg_sub 1 rfl) (CellsAt.one rfl) ?_)
          refine s_op (o_callf (vs := #[(.pointer (some ⟨db, 0, none⟩)), (.int .i64 n), dv]) ca29 rfl (args3 rfl rfl rfl) (write_d (p := p) (la := la) (lo := lo) ((hH381.front 3 rfl).front 3 rfl).all2 hd hok_.1 hla n (l := da) (hm.1.mono (seg_sub 6 rfl)) (by omega) (by omega)) ?_)
          rintro _ w389 ⟨sg385, rfl, hd386, hX387⟩
          refine ⟨_, rfl, ?_⟩
          have hH388 : Has E w389 [sg385, [Hp.one pb (.cells #[(.bool (useS p).off), (.bool (useS p).armed), (.int .i64 (useS p).left), (.int .i64 (useS p).uses)] 101 (0, 0))], [Hp.one qb (.cells #[(.bool (useM q).off), (.bool (useM q).armed), (.int .i64 (useM q).left), (.int .i64 (useM q).uses)] 112 (0, 0))], [Hp.one b2 (.cells #[(.int .i64 kd), (.int .i64 n), (.bool ot), dv, kv] 104 (0, 0))], h1, h2, h3, [Hp.one qm (.cells #[v1, v2, v3] 189 (0, 0))], R] := hX387.of_all2
          refine s_op (o_move (v := (.int .i64 6)) rfl ?_)
          refine s_op (o_eql (a := writeE p la.length n da.flatten) (b := 6) rfl rfl ?_)
          refine s_op (o_assign (v := (.bool (decide (writeE p la.length n da.flatten = 6)))) rfl ?_)
          refine s_nil ?_
          refine t_norm (hK384 _ _ ?_)
          refine wp_ret ?_
          refine b_ret (t_ret (c_ret1 Try.results55  (v := (.bool (decide (writeE p la.length n da.flatten = 6)))) rfl ?_))
          have hH390 : Has E w389 [sg385, [Hp.one pb (.cells #[(.bool (useS p).off), (.bool (useS p).armed), (.int .i64 (useS p).left), (.int .i64 (useS p).uses)] 101 (0, 0))], h1, h2, h3, [Hp.one qm (.cells #[v1, v2, v3] 189 (0, 0))], [Hp.one qb (.cells #[(.bool (useM q).off), (.bool (useM q).armed), (.int .i64 (useM q).left), (.int .i64 (useM q).uses)] 112 (0, 0))], R] := Has.pick hH388 [0, 0, 2, 2, 2, 2, 0, 1] (by kernel_rfl)
          have hS := hsim.write_off (n := n) (s := da.flatten) hpr h383_n
          exact ⟨_, _, _, (useS p), _, _, _, _, _, _, _, _, _, by rw [decide_eq_true (show _ = _ from hS.2)], hd386, rfl, hS.1, hpr.use, ho1, ho2, ho3, hH390⟩
        · -- not: !(useMB q)
          have h383_n : (useMB q) = true := by simpa using h383
          refine wp_seq_k fun K391 hK391 => ?_
          refine c_region ?_
          refine s_op (o_move (v := (.bool false)) e372_10 ?_)
          refine s_op (o_not rfl ?_)
          refine s_op (o_move (v := (.bool true)) rfl ?_)
          refine s_off (b' := true) 84 rfl rfl rfl ?_
          refine s_off (b' := true) 84 rfl rfl rfl ?_
          refine s_off (b' := true) 84 rfl rfl rfl ?_
          refine s_op (o_pick_t (u := (.bool true)) rfl rfl ?_)
          refine s_nil ?_
          refine t_norm (hK391 _ _ ?_)
          refine c_true rfl rfl ?_
          refine c_region ?_
          refine s_op (o_assign (v := (.int .i64 1)) rfl ?_)
          refine s_nil ?_
          refine t_norm (hK378 _ _ ?_)
          refine wp_seq_k fun K392 hK392 => ?_
          refine c_region ?_
          refine s_op (o_move (v := (.pointer (some ⟨db, 0, none⟩))) e372_0 ?_)
          refine s_op (o_fieldAddr (k := 1) (fun _ => by kernel_rfl) e372_7 ?_)
          refine s_op (o_load1 (v := (.int .i64 n)) Try.underlying3 rfl rfl hH381 (seg_sub 1 rfl) (CellsAt.one rfl) ?_)
          refine s_op (o_fieldAddr (k := 3) (fun _ => by kernel_rfl) e372_7 ?_)
          refine s_op (o_load1 (v := dv) Try.underlying53 rfl rfl hH381 (seg_sub 1 rfl) (CellsAt.one rfl) ?_)
          refine s_op (o_callf (vs := #[(.pointer (some ⟨db, 0, none⟩)), (.int .i64 n), dv]) ca29 rfl (args3 rfl rfl rfl) (write_d (p := p) (la := la) (lo := lo) ((hH381.front 3 rfl).front 3 rfl).all2 hd hok_.1 hla n (l := da) (hm.1.mono (seg_sub 6 rfl)) (by omega) (by omega)) ?_)
          rintro _ w397 ⟨sg393, rfl, hd394, hX395⟩
          refine ⟨_, rfl, ?_⟩
          have hH396 : Has E w397 [sg393, [Hp.one pb (.cells #[(.bool (useS p).off), (.bool (useS p).armed), (.int .i64 (useS p).left), (.int .i64 (useS p).uses)] 101 (0, 0))], [Hp.one qb (.cells #[(.bool (useM q).off), (.bool (useM q).armed), (.int .i64 (useM q).left), (.int .i64 (useM q).uses)] 112 (0, 0))], [Hp.one b2 (.cells #[(.int .i64 kd), (.int .i64 n), (.bool ot), dv, kv] 104 (0, 0))], h1, h2, h3, [Hp.one qm (.cells #[v1, v2, v3] 189 (0, 0))], R] := hX395.of_all2
          refine s_op (o_move (v := (.int .i64 1)) rfl ?_)
          refine s_op (o_eql (a := writeE p la.length n da.flatten) (b := 1) rfl rfl ?_)
          refine s_op (o_assign (v := (.bool (decide (writeE p la.length n da.flatten = 1)))) rfl ?_)
          refine s_nil ?_
          refine t_norm (hK392 _ _ ?_)
          refine wp_ret ?_
          refine b_ret (t_ret (c_ret1 Try.results55  (v := (.bool (decide (writeE p la.length n da.flatten = 1)))) rfl ?_))
          have hH398 : Has E w397 [sg393, [Hp.one pb (.cells #[(.bool (useS p).off), (.bool (useS p).armed), (.int .i64 (useS p).left), (.int .i64 (useS p).uses)] 101 (0, 0))], h1, h2, h3, [Hp.one qm (.cells #[v1, v2, v3] 189 (0, 0))], [Hp.one qb (.cells #[(.bool (useM q).off), (.bool (useM q).armed), (.int .i64 (useM q).left), (.int .i64 (useM q).uses)] 112 (0, 0))], R] := Has.pick hH396 [0, 0, 2, 2, 2, 2, 0, 1] (by kernel_rfl)
          have hS := hsim.write_bad (n := n) (s := da.flatten) hpr h383_n (fun g => by have g1 := g.1; have g2 := g.2.1; have g3 := g.2.2; omega)
          exact ⟨_, _, _, (useS p), _, _, _, _, _, _, _, _, _, by rw [decide_eq_true (show _ = _ from hS.2)], hd394, rfl, hS.1, hpr.use, ho1, ho2, ho3, hH398⟩
      · -- not: kd = 0
        refine wp_seq_k fun K399 hK399 => ?_
        refine c_region ?_
        refine s_op (o_eql (a := kd) (b := 1) rfl rfl ?_)
        refine s_op (o_assign (v := (.bool (decide (kd = 1)))) rfl ?_)
        refine s_nil ?_
        refine t_norm (hK399 _ _ ?_)
        refine c_cond rfl (fun h400 => ?_) (fun h400 => ?_)
        · -- kd = 1
          refine wp_seq_k fun K401 hK401 => ?_
          refine c_region ?_
          refine s_op (o_assign (v := (.int .i64 0)) rfl ?_)
          refine s_nil ?_
          refine t_norm (hK401 _ _ ?_)
          refine wp_seq_k fun K402 hK402 => ?_
          refine wp_seq_k fun K403 hK403 => ?_
          refine c_region ?_
          refine s_op (o_move (v := (.pointer (some ⟨qb, 0, none⟩))) e372_2 ?_)
          refine s_op (o_callf (vs := #[(.pointer (some ⟨qb, 0, none⟩))]) ca104 rfl (args1 rfl) (muse_c (q := q) (hH369.front 7 rfl).all1 hok_.2) ?_)
          rintro _ w406 ⟨rfl, hX404⟩
          refine ⟨_, rfl, ?_⟩
          have hH405 : Has E w406 [[Hp.one qb (.cells #[(.bool (useM q).off), (.bool (useM q).armed), (.int .i64 (useM q).left), (.int .i64 (useM q).uses)] 112 (0, 0))], [Hp.one b2 (.cells #[(.int .i64 kd), (.int .i64 n), (.bool ot), dv, kv] 104 (0, 0))], sg, [Hp.one pb (.cells #[(.bool p.off), (.bool p.armed), (.int .i64 p.left), (.int .i64 p.uses)] 101 (0, 0))], h1, h2, h3, [Hp.one qm (.cells #[v1, v2, v3] 189 (0, 0))], R] := hX404.of_all1
          refine s_op (o_not rfl ?_)
          refine s_nil ?_
          refine t_norm (hK403 _ _ ?_)
          refine c_condb rfl (fun h407 => ?_) (fun h407 => ?_)
          · -- !(useMB q)
            have h407_n : (useMB q) = false := by simpa using h407
            refine c_region ?_
            refine s_op (o_assign (v := (.int .i64 6)) rfl ?_)
            refine s_nil ?_
            refine t_norm (hK402 _ _ ?_)
            refine wp_seq_k fun K408 hK408 => ?_
            refine c_region ?_
            refine s_op (o_move (v := (.pointer (some ⟨db, 0, none⟩))) e372_0 ?_)
            refine s_op (o_callf (vs := #[(.pointer (some ⟨db, 0, none⟩))]) ca31 rfl (args1 rfl) (sync_d (p := p) (la := la) (lo := lo) ((hH405.front 3 rfl).front 3 rfl).all2 hd hok_.1 hla hsim.ok) ?_)
            rintro _ w413 ⟨sg409, rfl, hd410, hX411⟩
            refine ⟨_, rfl, ?_⟩
            have hH412 : Has E w413 [sg409, [Hp.one pb (.cells #[(.bool (useS p).off), (.bool (useS p).armed), (.int .i64 (useS p).left), (.int .i64 (useS p).uses)] 101 (0, 0))], [Hp.one qb (.cells #[(.bool (useM q).off), (.bool (useM q).armed), (.int .i64 (useM q).left), (.int .i64 (useM q).uses)] 112 (0, 0))], [Hp.one b2 (.cells #[(.int .i64 kd), (.int .i64 n), (.bool ot), dv, kv] 104 (0, 0))], h1, h2, h3, [Hp.one qm (.cells #[v1, v2, v3] 189 (0, 0))], R] := hX411.of_all2
            refine s_op (o_move (v := (.int .i64 6)) rfl ?_)
            refine s_op (o_eql (a := syncE p) (b := 6) rfl rfl ?_)
            refine s_op (o_assign (v := (.bool (decide (syncE p = 6)))) rfl ?_)
            refine s_nil ?_
            refine t_norm (hK408 _ _ ?_)
            refine wp_ret ?_
            refine b_ret (t_ret (c_ret1 Try.results55  (v := (.bool (decide (syncE p = 6)))) rfl ?_))
            have hH414 : Has E w413 [sg409, [Hp.one pb (.cells #[(.bool (useS p).off), (.bool (useS p).armed), (.int .i64 (useS p).left), (.int .i64 (useS p).uses)] 101 (0, 0))], h1, h2, h3, [Hp.one qm (.cells #[v1, v2, v3] 189 (0, 0))], [Hp.one qb (.cells #[(.bool (useM q).off), (.bool (useM q).armed), (.int .i64 (useM q).left), (.int .i64 (useM q).uses)] 112 (0, 0))], R] := Has.pick hH412 [0, 0, 2, 2, 2, 2, 0, 1] (by kernel_rfl)
            have hS := hsim.sync_off hpr h407_n
            exact ⟨_, _, _, (useS p), _, _, _, _, _, _, _, _, _, by rw [decide_eq_true (show _ = _ from hS.2.1)], hd410, (syncA_len _ _ _), hS.1, hpr.use, (by rw [hS.2.2]; exact ho1), ho2, ho3, hH414⟩
          · -- not: !(useMB q)
            have h407_n : (useMB q) = true := by simpa using h407
            refine wp_seq_k fun K415 hK415 => ?_
            refine c_region ?_
            refine s_op (o_move (v := (.pointer (some ⟨qm, 0, none⟩))) e372_1 ?_)
            refine s_op (o_buildSlice (ps := #[]) (cells := #[]) Try.underlying53 ti9 (by decide) (parts0) (by kernel_rfl) hH405 fun b416 w417 hH418 => ?_)
            refine s_op (o_move (v := (.pointer (some ⟨qm, 0, none⟩))) e372_1 ?_)
            refine s_op (o_nilCheck rfl ?_)
            refine s_op (o_fieldAddr (k := 1) (fun _ => by kernel_rfl) rfl ?_)
            refine s_op (o_load1 (v := v2) Try.underlying53 rfl rfl hH418 (seg_sub 8 rfl) (CellsAt.one rfl) ?_)
            refine s_op (o_append Try.underlying53 ti9 rfl (by decide) rfl (Own.lit (e := 9) (sz := 1) (n := 0) (b := b416) (cur := #[]) rfl (by decide)) rfl ho2.sl (hH418.front 0 rfl) (seg_sub 5 rfl) (one_sV _) (by simp; omega) (by simp; omega) fun v419 s420 w422 ho421 hH423 => ?_)
            have ho421 : Own 9 1 v419 nw.length (nw.map sV) s420 := Own.app (a := []) ho421
            refine s_op (o_nilCheck rfl ?_)
            refine s_op (o_fieldAddr (k := 0) (fun _ => by kernel_rfl) rfl ?_)
            refine s_eff (o_store1 (c' := #[v419, v2, v3]) ti53 rfl rfl ho421.one (by simp) rfl (hH423.front 8 rfl) fun w424 hH425 => ?_)
            refine s_nil ?_
            refine t_norm (hK415 _ _ ?_)
            refine c_region ?_
            refine s_op (o_move (v := (.pointer (some ⟨qm, 0, none⟩))) e372_1 ?_)
            refine s_op (o_nilCheck rfl ?_)
            refine s_op (o_fieldAddr (k := 2) (fun _ => by kernel_rfl) rfl ?_)
            refine s_eff (o_store1 (c' := #[v419, v2, (.slice none 0 0)]) ti54 rfl rfl rfl (by simp) rfl (hH425.front 0 rfl) fun w426 hH427 => ?_)
            refine s_nil ?_
            refine t_norm (hK402 _ _ ?_)
            refine wp_seq_k fun K428 hK428 => ?_
            refine c_region ?_
            refine s_op (o_move (v := (.pointer (some ⟨db, 0, none⟩))) e372_0 ?_)
            refine s_op (o_callf (vs := #[(.pointer (some ⟨db, 0, none⟩))]) ca31 rfl (args1 rfl) (sync_d (p := p) (la := la) (lo := lo) ((hH427.front 5 rfl).front 5 rfl).all2 hd hok_.1 hla hsim.ok) ?_)
            rintro _ w433 ⟨sg429, rfl, hd430, hX431⟩
            refine ⟨_, rfl, ?_⟩
            have hH432 : Has E w433 [sg429, [Hp.one pb (.cells #[(.bool (useS p).off), (.bool (useS p).armed), (.int .i64 (useS p).left), (.int .i64 (useS p).uses)] 101 (0, 0))], [Hp.one qm (.cells #[v419, v2, (.slice none 0 0)] 189 (0, 0))], s420, [Hp.one qb (.cells #[(.bool (useM q).off), (.bool (useM q).armed), (.int .i64 (useM q).left), (.int .i64 (useM q).uses)] 112 (0, 0))], [Hp.one b2 (.cells #[(.int .i64 kd), (.int .i64 n), (.bool ot), dv, kv] 104 (0, 0))], h1, h2, h3, R] := hX431.of_all2
            refine s_op (o_move (v := (.int .i64 0)) rfl ?_)
            refine s_op (o_eql (a := syncE p) (b := 0) rfl rfl ?_)
            refine s_op (o_assign (v := (.bool (decide (syncE p = 0)))) rfl ?_)
            refine s_nil ?_
            refine t_norm (hK428 _ _ ?_)
            refine wp_ret ?_
            refine b_ret (t_ret (c_ret1 Try.results55  (v := (.bool (decide (syncE p = 0)))) rfl ?_))
            have hH434 : Has E w433 [sg429, [Hp.one pb (.cells #[(.bool (useS p).off), (.bool (useS p).armed), (.int .i64 (useS p).left), (.int .i64 (useS p).uses)] 101 (0, 0))], s420, h2, [], [Hp.one qm (.cells #[v419, v2, (.slice none 0 0)] 189 (0, 0))], [Hp.one qb (.cells #[(.bool (useM q).off), (.bool (useM q).armed), (.int .i64 (useM q).left), (.int .i64 (useM q).uses)] 112 (0, 0))], R] := Has.pick (Has.nil hH432) [1, 1, 2, 5, 0, 0, 0, 3] (by kernel_rfl)
            have hS := hsim.sync_on hpr h407_n
            exact ⟨_, _, _, (useS p), _, _, _, _, _, _, _, _, _, by rw [decide_eq_true (show _ = _ from hS.2.1)], hd430, (syncA_len _ _ _), hS.1, hpr.use, (by rw [hS.2.2]; simpa using ho421), ho2, (Own.nil 3 1), hH434⟩
        · -- not: kd = 1
          refine wp_seq_k fun K435 hK435 => ?_
          refine c_region ?_
          refine s_op (o_eql (a := kd) (b := 2) rfl rfl ?_)
          refine s_op (o_assign (v := (.bool (decide (kd = 2)))) rfl ?_)
          refine s_nil ?_
          refine t_norm (hK435 _ _ ?_)
          refine c_cond rfl (fun h436 => ?_) (fun h436 => ?_)
          · -- kd = 2
            refine wp_seq_k fun K437 hK437 => ?_
            refine c_region ?_
            refine s_op (o_move (v := (.pointer (some ⟨db, 0, none⟩))) e372_0 ?_)
            refine s_op (o_fieldAddr (k := 1) (fun _ => by kernel_rfl) e372_7 ?_)
            refine s_op (o_load1 (v := (.int .i64 n)) Try.underlying3 rfl rfl hH369 (seg_sub 0 rfl) (CellsAt.one rfl) ?_)
            refine s_op (o_callf (vs := #[(.pointer (some ⟨db, 0, none⟩)), (.int .i64 n)]) ca33 rfl (args2 rfl rfl) (read_d (p := p) (la := la) (lo := lo) ((hH369.front 2 rfl).front 2 rfl).all2 hd n) ?_)
            rintro _ w440 ⟨rfl, hX438⟩
            refine ⟨_, rfl, ?_⟩
            have hH439 : Has E w440 [sg, [Hp.one pb (.cells #[(.bool p.off), (.bool p.armed), (.int .i64 p.left), (.int .i64 p.uses)] 101 (0, 0))], [Hp.one b2 (.cells #[(.int .i64 kd), (.int .i64 n), (.bool ot), dv, kv] 104 (0, 0))], h1, h2, h3, [Hp.one qm (.cells #[v1, v2, v3] 189 (0, 0))], [Hp.one qb (.cells #[(.bool q.off), (.bool q.armed), (.int .i64 q.left), (.int .i64 q.uses)] 112 (0, 0))], R] := hX438.of_all2
            refine s_op (o_move (v := (.tuple #[(S (readS p la lo n)), (.int .i64 (readE p la n))])) rfl ?_)
            refine s_op (o_extract (v := (S (readS p la lo n))) rfl rfl ?_)
            refine s_op (o_extract (v := (.int .i64 (readE p la n))) rfl rfl ?_)
            refine s_op (o_assign (v := (S (readS p la lo n))) rfl ?_)
            refine s_op (o_assign (v := (.int .i64 (readE p la n))) rfl ?_)
            refine s_nil ?_
            refine t_norm (hK437 _ _ ?_)
            refine wp_seq_k fun K441 hK441 => ?_
            refine wp_seq_k fun K442 hK442 => ?_
            refine c_region ?_
            refine s_op (o_move (v := (.pointer (some ⟨qb, 0, none⟩))) e372_2 ?_)
            refine s_op (o_nilCheck rfl ?_)
            refine s_op (o_fieldAddr (k := 0) (fun _ => by kernel_rfl) rfl ?_)
            refine s_op (o_load1 (v := (.bool q.off)) Try.underlying4 rfl rfl hH439 (seg_sub 7 rfl) (CellsAt.one rfl) ?_)
            refine s_nil ?_
            refine t_norm (hK442 _ _ ?_)
            refine c_condb rfl (fun h443 => ?_) (fun h443 => ?_)
            · -- q.off
              refine wp_seq_k fun K444 hK444 => ?_
              refine c_region ?_
              refine s_op (o_move (v := (S (readS p la lo n))) rfl ?_)
              refine s_op (o_seql (a := (readS p la lo n)) (b := ([] : List UInt8)) rfl rfl ?_)
              refine s_op (o_move (v := (.bool (decide ((readS p la lo n) = ([] : List UInt8))))) rfl ?_)
              by_cases h445 : (readS p la lo n) = ([] : List UInt8)
              · -- (readS p la lo n) = ([] : List UInt8)
                refine s_on 152 rfl (congrArg Value.bool (decide_eq_true h445)) (o_move (v := (.int .i64 (readE p la n))) rfl ?_)
                refine s_on 152 rfl (congrArg Value.bool (decide_eq_true h445)) (o_eql (a := readE p la n) (b := 6) rfl rfl ?_)
                refine s_op (o_pick_t (u := (.bool (decide (readE p la n = 6)))) ((rfl : _ = _).trans (congrArg Value.bool (decide_eq_true h445))) rfl ?_)
                refine s_op (o_assign (v := (.bool (decide (readE p la n = 6)))) rfl ?_)
                refine s_nil ?_
                refine t_norm (hK444 _ _ ?_)
                refine wp_ret ?_
                refine t_ret (b_ret (t_ret (c_ret1 Try.results55  (v := (.bool (decide (readE p la n = 6)))) rfl ?_)))
                have hH446 : Has E w440 [sg, [Hp.one pb (.cells #[(.bool p.off), (.bool p.armed), (.int .i64 p.left), (.int .i64 p.uses)] 101 (0, 0))], h1, h2, h3, [Hp.one qm (.cells #[v1, v2, v3] 189 (0, 0))], [Hp.one qb (.cells #[(.bool q.off), (.bool q.armed), (.int .i64 q.left), (.int .i64 q.uses)] 112 (0, 0))], R] := Has.pick hH439 [0, 0, 1, 1, 1, 1, 1, 1] (by kernel_rfl)
                exact ⟨_, _, _, p, _, _, _, _, _, _, _, _, _, by rw [decide_eq_true (show _ = _ from (hsim.read_off (n := n) hpr h443).2)], hd, rfl, hsim, hpr.mono (by omega), ho1, ho2, ho3, hH446⟩
              · -- not: (readS p la lo n) = ([] : List UInt8)
                exact absurd (hsim.read_off (n := n) hpr h443).1 h445
            · -- not: q.off
              refine wp_skip ?_
              refine t_norm (hK441 _ _ ?_)
              refine wp_seq_k fun K447 hK447 => ?_
              refine wp_seq_k fun K448 hK448 => ?_
              refine c_region ?_
              refine s_op (o_move (v := (.bool false)) e372_10 ?_)
              refine s_op (o_not rfl ?_)
              refine s_nil ?_
              refine t_norm (hK448 _ _ ?_)
              refine c_true rfl rfl ?_
              refine wp_seq_k fun K449 hK449 => ?_
              refine c_region ?_
              refine s_op (o_move (v := (S (readS p la lo n))) rfl ?_)
              refine s_op (o_seql (a := (readS p la lo n)) (b := ([] : List UInt8)) rfl rfl ?_)
              refine s_op (o_move (v := (.bool (decide ((readS p la lo n) = ([] : List UInt8))))) rfl ?_)
              by_cases h450 : (readS p la lo n) = ([] : List UInt8)
              · -- (readS p la lo n) = ([] : List UInt8)
                refine s_on 160 rfl (congrArg Value.bool (decide_eq_true h450)) (o_move (v := (.int .i64 (readE p la n))) rfl ?_)
                refine s_on 160 rfl (congrArg Value.bool (decide_eq_true h450)) (o_eql (a := readE p la n) (b := 1) rfl rfl ?_)
                refine s_op (o_pick_t (u := (.bool (decide (readE p la n = 1)))) ((rfl : _ = _).trans (congrArg Value.bool (decide_eq_true h450))) rfl ?_)
                refine s_op (o_assign (v := (.bool (decide (readE p la n = 1)))) rfl ?_)
                refine s_nil ?_
                refine t_norm (hK449 _ _ ?_)
                refine wp_ret ?_
                refine t_ret (b_ret (t_ret (c_ret1 Try.results55  (v := (.bool (decide (readE p la n = 1)))) rfl ?_)))
                have hH451 : Has E w440 [sg, [Hp.one pb (.cells #[(.bool p.off), (.bool p.armed), (.int .i64 p.left), (.int .i64 p.uses)] 101 (0, 0))], h1, h2, h3, [Hp.one qm (.cells #[v1, v2, v3] 189 (0, 0))], [Hp.one qb (.cells #[(.bool q.off), (.bool q.armed), (.int .i64 q.left), (.int .i64 q.uses)] 112 (0, 0))], R] := Has.pick hH439 [0, 0, 1, 1, 1, 1, 1, 1] (by kernel_rfl)
                exact ⟨_, _, _, p, _, _, _, _, _, _, _, _, _, by rw [decide_eq_true (show _ = _ from (hsim.read_bad (n := n) hpr h443 (fun g => by have g1 := g.1; have g2 := g.2; omega)).2)], hd, rfl, hsim, hpr.mono (by omega), ho1, ho2, ho3, hH451⟩
              · -- not: (readS p la lo n) = ([] : List UInt8)
                exact absurd (hsim.read_bad (n := n) hpr h443 (fun g => by have g1 := g.1; have g2 := g.2; omega)).1 h450
          · -- not: kd = 2
            refine wp_seq_k fun K452 hK452 => ?_
            refine c_region ?_
            refine s_op (o_eql (a := kd) (b := 3) rfl rfl ?_)
            refine s_op (o_assign (v := (.bool (decide (kd = 3)))) rfl ?_)
            refine s_nil ?_
            refine t_norm (hK452 _ _ ?_)
            refine c_cond rfl (fun h453 => ?_) (fun h453 => ?_)
            · -- kd = 3
              refine wp_seq_k fun K454 hK454 => ?_
              refine c_region ?_
              refine s_op (o_move (v := (.pointer (some ⟨db, 0, none⟩))) e372_0 ?_)
              refine s_op (o_fieldAddr (k := 1) (fun _ => by kernel_rfl) e372_7 ?_)
              refine s_op (o_load1 (v := (.int .i64 n)) Try.underlying3 rfl rfl hH369 (seg_sub 0 rfl) (CellsAt.one rfl) ?_)
              refine s_op (o_callf (vs := #[(.pointer (some ⟨db, 0, none⟩)), (.int .i64 n)]) ca60 rfl (args2 rfl rfl) (darm_d (p := p) (la := la) (lo := lo) ((hH369.front 2 rfl).front 2 rfl).all2 hd n) ?_)
              rintro _ w457 ⟨rfl, hX455⟩
              refine ⟨_, rfl, ?_⟩
              have hH456 : Has E w457 [sg, [Hp.one pb (.cells #[(.bool (armS p n).off), (.bool (armS p n).armed), (.int .i64 (armS p n).left), (.int .i64 (armS p n).uses)] 101 (0, 0))], [Hp.one b2 (.cells #[(.int .i64 kd), (.int .i64 n), (.bool ot), dv, kv] 104 (0, 0))], h1, h2, h3, [Hp.one qm (.cells #[v1, v2, v3] 189 (0, 0))], [Hp.one qb (.cells #[(.bool q.off), (.bool q.armed), (.int .i64 q.left), (.int .i64 q.uses)] 112 (0, 0))], R] := hX455.of_all2
              refine s_nil ?_
              refine t_norm (hK454 _ _ ?_)
              refine wp_seq_k fun K458 hK458 => ?_
              refine c_region ?_
              refine s_op (o_move (v := (.pointer (some ⟨qb, 0, none⟩))) e372_2 ?_)
              refine s_op (o_nilCheck rfl ?_)
              refine s_op (o_fieldAddr (k := 1) (fun _ => by kernel_rfl) rfl ?_)
              refine s_eff (o_store1 (c' := #[(.bool q.off), (.bool true), (.int .i64 q.left), (.int .i64 q.uses)]) ti4 rfl rfl rfl (by simp) rfl (hH456.front 7 rfl) fun w459 hH460 => ?_)
              refine s_nil ?_
              refine t_norm (hK458 _ _ ?_)
              refine c_region ?_
              refine s_op (o_move (v := (.pointer (some ⟨qb, 0, none⟩))) e372_2 ?_)
              refine s_op (o_fieldAddr (k := 1) (fun _ => by kernel_rfl) e372_7 ?_)
              refine s_op (o_load1 (v := (.int .i64 n)) Try.underlying3 rfl rfl hH460 (seg_sub 3 rfl) (CellsAt.one rfl) ?_)
              refine s_op (o_max (a := n) (b := 0) rfl rfl ?_)
              refine s_op (o_nilCheck rfl ?_)
              refine s_op (o_fieldAddr (k := 2) (fun _ => by kernel_rfl) rfl ?_)
              refine s_eff (o_store1 (c' := #[(.bool q.off), (.bool true), (.int .i64 (max n 0)), (.int .i64 q.uses)]) ti3 rfl rfl rfl (by simp) rfl (hH460.front 0 rfl) fun w461 hH462 => ?_)
              refine s_nil ?_
              refine b_norm ?_
              refine t_norm (hK373 _ _ ?_)
              refine wp_seq_k fun K463 hK463 => ?_
              refine c_region ?_
              refine s_op (o_assign (v := (.bool true)) rfl ?_)
              refine s_nil ?_
              refine t_norm (hK463 _ _ ?_)
              refine wp_ret ?_
              refine c_ret1 Try.results55  (v := (.bool true)) rfl ?_
              have hH464 : Has E w461 [sg, [Hp.one pb (.cells #[(.bool (armS p n).off), (.bool (armS p n).armed), (.int .i64 (armS p n).left), (.int .i64 (armS p n).uses)] 101 (0, 0))], h1, h2, h3, [Hp.one qm (.cells #[v1, v2, v3] 189 (0, 0))], [Hp.one qb (.cells #[(.bool q.off), (.bool true), (.int .i64 (max n 0)), (.int .i64 q.uses)] 112 (0, 0))], R] := Has.pick hH462 [1, 1, 2, 2, 2, 2, 0, 1] (by kernel_rfl)
              exact ⟨_, _, _, (armS p n), _, _, _, _, _, _, _, _, _, rfl, hd, rfl, hsim, (hpr.arm' hnb).mono (by omega), ho1, ho2, ho3, hH464⟩
            · -- not: kd = 3
              refine wp_seq_k fun K465 hK465 => ?_
              refine c_region ?_
              refine s_op (o_eql (a := kd) (b := 4) rfl rfl ?_)
              refine s_op (o_assign (v := (.bool (decide (kd = 4)))) rfl ?_)
              refine s_nil ?_
              refine t_norm (hK465 _ _ ?_)
              refine c_cond rfl (fun h466 => ?_) (fun h466 => ?_)
              · -- kd = 4
                refine wp_seq_k fun K467 hK467 => ?_
                refine c_region ?_
                refine s_op (o_move (v := (.pointer (some ⟨db, 0, none⟩))) e372_0 ?_)
                refine s_op (o_fieldAddr (k := 4) (fun _ => by kernel_rfl) e372_7 ?_)
                refine s_op (o_load1 (v := kv) Try.underlying54 rfl rfl hH369 (seg_sub 0 rfl) (CellsAt.one rfl) ?_)
                refine s_op (o_callf (vs := #[(.pointer (some ⟨db, 0, none⟩)), kv]) ca32 rfl (args2 rfl rfl) (crash_d (p := p) (la := la) (lo := lo) ((hH369.front 2 rfl).front 2 rfl).all2 hd hsim.ok (keep := ke) (hm.2.1.mono (seg_sub 6 rfl))) ?_)
                rintro _ w472 ⟨sg468, rfl, hd469, hX470⟩
                refine ⟨_, rfl, ?_⟩
                have hH471 : Has E w472 [sg468, [Hp.one pb (.cells #[(.bool (backS p).off), (.bool (backS p).armed), (.int .i64 (backS p).left), (.int .i64 (backS p).uses)] 101 (0, 0))], [Hp.one b2 (.cells #[(.int .i64 kd), (.int .i64 n), (.bool ot), dv, kv] 104 (0, 0))], h1, h2, h3, [Hp.one qm (.cells #[v1, v2, v3] 189 (0, 0))], [Hp.one qb (.cells #[(.bool q.off), (.bool q.armed), (.int .i64 q.left), (.int .i64 q.uses)] 112 (0, 0))], R] := hX470.of_all2
                refine s_nil ?_
                refine t_norm (hK467 _ _ ?_)
                refine wp_seq_k fun K473 hK473 => ?_
                refine c_region ?_
                refine s_op (o_move (v := (.pointer (some ⟨qb, 0, none⟩))) e372_2 ?_)
                refine s_op (o_nilCheck rfl ?_)
                refine s_op (o_fieldAddr (k := 0) (fun _ => by kernel_rfl) rfl ?_)
                refine s_eff (o_store1 (c' := #[(.bool false), (.bool q.armed), (.int .i64 q.left), (.int .i64 q.uses)]) ti4 rfl rfl rfl (by simp) rfl (hH471.front 7 rfl) fun w474 hH475 => ?_)
                refine s_nil ?_
                refine t_norm (hK473 _ _ ?_)
                refine wp_seq_k fun K476 hK476 => ?_
                refine c_region ?_
                refine s_op (o_move (v := (.pointer (some ⟨qb, 0, none⟩))) e372_2 ?_)
                refine s_op (o_nilCheck rfl ?_)
                refine s_op (o_fieldAddr (k := 1) (fun _ => by kernel_rfl) rfl ?_)
                refine s_eff (o_store1 (c' := #[(.bool false), (.bool false), (.int .i64 q.left), (.int .i64 q.uses)]) ti4 rfl rfl rfl (by simp) rfl (hH475.front 0 rfl) fun w477 hH478 => ?_)
                refine s_nil ?_
                refine t_norm (hK476 _ _ ?_)
                refine wp_seq_k fun K479 hK479 => ?_
                refine wp_seq_k fun K480 hK480 => ?_
                refine c_region ?_
                refine s_op (o_assign (v := (.int .i64 0)) rfl ?_)
                refine s_nil ?_
                refine t_norm (hK480 _ _ ?_)
                refine wp_block ?_
                let I482 : Nat → (Nat → Value) → World → Prop := fun n__ r__ w__ => ∃ (j : Nat) (hA : List Hp) (hN : List Hp), n__ = la.length - j ∧ Has E w__ [hA, hN, [Hp.one qm (.cells #[v1, v2, v3] 189 (0, 0))], [Hp.one qb (.cells #[(.bool false), (.bool false), (.int .i64 q.left), (.int .i64 q.uses)] 112 (0, 0))], sg468, [Hp.one pb (.cells #[(.bool (backS p).off), (.bool (backS p).armed), (.int .i64 (backS p).left), (.int .i64 (backS p).uses)] 101 (0, 0))], [Hp.one b2 (.cells #[(.int .i64 kd), (.int .i64 n), (.bool ot), dv, kv] 104 (0, 0))], h3, R] ∧ (j ≤ la.length) ∧ (Own 9 1 v1 (crAS la nw ke j).length ((crAS la nw ke j).map sV) hA) ∧ (Own 9 1 v2 (crNS la nw ke j).length ((crNS la nw ke j).map sV) hN) ∧ r__ 0 = (.pointer (some ⟨db, 0, none⟩)) ∧ r__ 1 = (.pointer (some ⟨qm, 0, none⟩)) ∧ r__ 2 = (.pointer (some ⟨qb, 0, none⟩)) ∧ r__ 3 = (.agg #[(.int .i64 kd), (.int .i64 n), (.bool ot), dv, kv]) ∧ r__ 7 = (.pointer (some ⟨b2, 0, none⟩)) ∧ r__ 8 = (.bool false) ∧ r__ 9 = (S da.flatten) ∧ r__ 10 = (.bool false) ∧ r__ 15 = (.int .i64 (j : Int)) ∧ r__ 34 = (.int .i64 kd) ∧ r__ 77 = (.bool (decide (kd = 0))) ∧ r__ 116 = (.bool (decide (kd = 1))) ∧ r__ 137 = (.bool (decide (kd = 2))) ∧ r__ 178 = (.bool (decide (kd = 3))) ∧ r__ 193 = (.bool (decide (kd = 4)))
                have hH483 : Has E w477 [h1, h2, [Hp.one qm (.cells #[v1, v2, v3] 189 (0, 0))], [Hp.one qb (.cells #[(.bool false), (.bool false), (.int .i64 q.left), (.int .i64 q.uses)] 112 (0, 0))], sg468, [Hp.one pb (.cells #[(.bool (backS p).off), (.bool (backS p).armed), (.int .i64 (backS p).left), (.int .i64 (backS p).uses)] 101 (0, 0))], [Hp.one b2 (.cells #[(.int .i64 kd), (.int .i64 n), (.bool ot), dv, kv] 104 (0, 0))], h3, R] := Has.pick hH478 [4, 4, 5, 0, 0, 0, 0, 0, 0] (by kernel_rfl)
                refine c_loop I482 _ ⟨0, h1, h2, rfl, hH483, Nat.zero_le _, (by rw [crA_zero]; exact ho1), (by rw [crN_zero hsim.len]; exact ho2), e372_0, e372_1, e372_2, e372_3, e372_7, e372_8, e372_9, e372_10, rfl, rfl, rfl, rfl, rfl, rfl, rfl⟩ ?_
                rintro n_ r486 w484 ⟨j, hA, hN, rfl, hH485, hj, hc1, hc2, e481_0, e481_1, e481_2, e481_3, e481_7, e481_8, e481_9, e481_10, e481_15, e481_34, e481_77, e481_116, e481_137, e481_178, e481_193⟩
                have hcl_ := cr_len la nw ke j
                refine wp_seq_k fun K487 hK487 => ?_
                refine wp_seq_k fun K488 hK488 => ?_
                refine c_region ?_
                refine s_op (o_move (v := (.int .i64 (j : Int))) e481_15 ?_)
                refine s_op (o_move (v := (.pointer (some ⟨qm, 0, none⟩))) e481_1 ?_)
                refine s_op (o_nilCheck rfl ?_)
                refine s_op (o_fieldAddr (k := 1) (fun _ => by kernel_rfl) rfl ?_)
                refine s_op (o_load1 (v := v2) Try.underlying53 rfl rfl hH485 (seg_sub 2 rfl) (CellsAt.one rfl) ?_)
                refine s_op (o_lenS Try.underlying53 rfl hc2.sl ?_)
                refine s_op (o_lss (a := (j : Int)) (b := (((crNS la nw ke j).length : Nat) : Int)) rfl rfl ?_)
                refine s_nil ?_
                refine t_norm (hK488 _ _ ?_)
                refine c_cond rfl (fun h489 => ?_) (fun h489 => ?_)
                · -- (j : Int) < (((crNS la nw ke j).length : Nat) : Int)
                  refine wp_skip ?_
                  refine t_norm (hK487 _ _ ?_)
                  refine wp_seq_k fun K490 hK490 => ?_
                  refine wp_block ?_
                  refine wp_seq_k fun K491 hK491 => ?_
                  refine wp_seq_k fun K492 hK492 => ?_
                  refine c_region ?_
                  refine s_op (o_fieldAddr (k := 4) (fun _ => by kernel_rfl) e481_7 ?_)
                  refine s_op (o_load1 (v := kv) Try.underlying54 rfl rfl hH485 (seg_sub 6 rfl) (CellsAt.one rfl) ?_)
                  refine s_op (o_move (v := (.int .i64 (j : Int))) e481_15 ?_)
                  refine s_op (o_callf (vs := #[kv, (.int .i64 (j : Int))]) ca34 rfl (args2 rfl rfl) (refhas_c hH485.all (l := ke) (hm.2.1.mono (seg_sub 8 rfl)) (j : Int)) ?_)
                  rintro _ w495 ⟨rfl, hX493⟩
                  refine ⟨_, rfl, ?_⟩
                  have hH494 := hX493.of_all
                  refine s_nil ?_
                  refine t_norm (hK492 _ _ ?_)
                  refine c_cond rfl (fun h496 => ?_) (fun h496 => ?_)
                  · -- (j : Int) ∈ ke
                    obtain ⟨x500, hx501⟩ : ∃ x_, (crNS la nw ke j)[((j : Int)).toNat]? = some x_ := get_some (by first | omega | (rw [List.length_set]; omega))
                    have hH508 : Has E w495 [hN, [Hp.one qm (.cells #[v1, v2, v3] 189 (0, 0))], [Hp.one qb (.cells #[(.bool false), (.bool false), (.int .i64 q.left), (.int .i64 q.uses)] 112 (0, 0))], sg468, [Hp.one pb (.cells #[(.bool (backS p).off), (.bool (backS p).armed), (.int .i64 (backS p).left), (.int .i64 (backS p).uses)] 101 (0, 0))], [Hp.one b2 (.cells #[(.int .i64 kd), (.int .i64 n), (.bool ot), dv, kv] 104 (0, 0))], h3, R, hA] := Has.pick hH494 [1, 1, 1, 1, 1, 1, 1, 1, 0] (by kernel_rfl)
                    refine c_flow [hN, [Hp.one qm (.cells #[v1, v2, v3] 189 (0, 0))], [Hp.one qb (.cells #[(.bool false), (.bool false), (.int .i64 q.left), (.int .i64 q.uses)] 112 (0, 0))], sg468, [Hp.one pb (.cells #[(.bool (backS p).off), (.bool (backS p).armed), (.int .i64 (backS p).left), (.int .i64 (backS p).uses)] 101 (0, 0))], [Hp.one b2 (.cells #[(.int .i64 kd), (.int .i64 n), (.bool ot), dv, kv] 104 (0, 0))], h3, R] (fun i_ => match i_ with | 13 => hA | _ => []) (fun i_ v_ h_ => match i_ with | 0 => v_ = (.pointer (some ⟨qm, 0, none⟩)) ∧ h_ = [] | 1 => v_ = (.pointer (some ⟨qm, 0, none⟩)) ∧ h_ = [] | 2 => v_ = (.pointer (some ⟨qm, 0, none⟩)) ∧ h_ = [] | 3 => v_ = v1 ∧ h_ = [] | 4 => v_ = (.int .i64 (j : Int)) ∧ h_ = [] | 5 => v_ = (.pointer (some ⟨qm, 0, none⟩)) ∧ h_ = [] | 6 => v_ = (.pointer (some ⟨qm, 0, none⟩)) ∧ h_ = [] | 7 => v_ = (.pointer (some ⟨qm, 1, none⟩)) ∧ h_ = [] | 8 => v_ = v2 ∧ h_ = [] | 9 => v_ = (.int .i64 (j : Int)) ∧ h_ = [] | 10 => ∃ (b497 : Nat) (o498 : Nat), v_ = (.pointer (some ⟨b497, o498, none⟩)) ∧ h_ = [] ∧ (CellsAt hN b497 o498 [(S x500)]) | 11 => v_ = (S x500) ∧ h_ = [] | 12 => ∃ (b502 : Nat), v_ = (.pointer (some ⟨b502, ((j : Int)).toNat, none⟩)) ∧ h_ = [] ∧ (OwnAt 9 v1 ((crAS la nw ke j).length) ((crAS la nw ke j).map sV) hA b502) | 13 => ∃ (s504 : List Hp), v_ = undef ∧ h_ = s504 ∧ (Own 9 1 v1 ((crAS la nw ke j).set (((j : Int)).toNat) x500).length (((crAS la nw ke j).set (((j : Int)).toNat) x500).map sV) s504) | _ => True) mixed (by kernel_rfl) (flow_has (cs := [hA]) hH508 rfl) ?_ ?_
                    · intro i_ o_ ho_ r' w' G hs_ ht
                      match i_, ho_ with
                      | 0, ho_ =>
                        obtain rfl := Option.some.inj ho_
                        have e1 : r' 1 = (.pointer (some ⟨qm, 0, none⟩)) := (ht.was 1 (by kernel_rfl)).trans e481_1
                        have hG := ht.has.drop
                        refine o_move (v := (.pointer (some ⟨qm, 0, none⟩))) e1 ?_
                        exact ⟨_, ⟨rfl, rfl⟩, hG⟩
                      | 1, ho_ =>
                        obtain rfl := Option.some.inj ho_
                        obtain ⟨e218, eh0⟩ := (ht.done 0 _ rfl rfl).1
                        have hG := ht.has.drop
                        refine o_nilCheck e218 ?_
                        exact ⟨_, ⟨rfl, rfl⟩, hG⟩
                      | 2, ho_ =>
                        obtain rfl := Option.some.inj ho_
                        obtain ⟨e219, eh1⟩ := (ht.done 1 _ rfl rfl).1
                        have hG := ht.has.drop
                        refine o_fieldAddr (k := 0) (fun _ => by kernel_rfl) e219 ?_
                        exact ⟨_, ⟨rfl, rfl⟩, hG⟩
                      | 3, ho_ =>
                        obtain rfl := Option.some.inj ho_
                        obtain ⟨e220, eh2⟩ := (ht.done 2 _ rfl rfl).1
                        have hG := ht.has.drop
                        refine o_load1 (v := v1) Try.underlying53 rfl e220 hG (ht.fr [Hp.one qm (.cells #[v1, v2, v3] 189 (0, 0))] (by simp)) (CellsAt.one rfl) ?_
                        exact ⟨_, ⟨rfl, rfl⟩, hG⟩
                      | 4, ho_ =>
                        obtain rfl := Option.some.inj ho_
                        have e15 : r' 15 = (.int .i64 (j : Int)) := (ht.was 15 (by kernel_rfl)).trans e481_15
                        have hG := ht.has.drop
                        refine o_move (v := (.int .i64 (j : Int))) e15 ?_
                        exact ⟨_, ⟨rfl, rfl⟩, hG⟩
                      | 5, ho_ =>
                        obtain rfl := Option.some.inj ho_
                        have e1 : r' 1 = (.pointer (some ⟨qm, 0, none⟩)) := (ht.was 1 (by kernel_rfl)).trans e481_1
                        have hG := ht.has.drop
                        refine o_move (v := (.pointer (some ⟨qm, 0, none⟩))) e1 ?_
                        exact ⟨_, ⟨rfl, rfl⟩, hG⟩
                      | 6, ho_ =>
                        obtain rfl := Option.some.inj ho_
                        obtain ⟨e223, eh5⟩ := (ht.done 5 _ rfl rfl).1
                        have hG := ht.has.drop
                        refine o_nilCheck e223 ?_
                        exact ⟨_, ⟨rfl, rfl⟩, hG⟩
                      | 7, ho_ =>
                        obtain rfl := Option.some.inj ho_
                        obtain ⟨e224, eh6⟩ := (ht.done 6 _ rfl rfl).1
                        have hG := ht.has.drop
                        refine o_fieldAddr (k := 1) (fun _ => by kernel_rfl) e224 ?_
                        exact ⟨_, ⟨rfl, rfl⟩, hG⟩
                      | 8, ho_ =>
                        obtain rfl := Option.some.inj ho_
                        obtain ⟨e225, eh7⟩ := (ht.done 7 _ rfl rfl).1
                        have hG := ht.has.drop
                        refine o_load1 (v := v2) Try.underlying53 rfl e225 hG (ht.fr [Hp.one qm (.cells #[v1, v2, v3] 189 (0, 0))] (by simp)) (CellsAt.one rfl) ?_
                        exact ⟨_, ⟨rfl, rfl⟩, hG⟩
                      | 9, ho_ =>
                        obtain rfl := Option.some.inj ho_
                        have e15 : r' 15 = (.int .i64 (j : Int)) := (ht.was 15 (by kernel_rfl)).trans e481_15
                        have hG := ht.has.drop
                        refine o_move (v := (.int .i64 (j : Int))) e15 ?_
                        exact ⟨_, ⟨rfl, rfl⟩, hG⟩
                      | 10, ho_ =>
                        obtain rfl := Option.some.inj ho_
                        obtain ⟨e226, eh8⟩ := (ht.done 8 _ rfl rfl).1
                        obtain ⟨e227, eh9⟩ := (ht.done 9 _ rfl rfl).1
                        have hG := ht.has.drop
                        refine o_index1 Try.underlying53 ti9 e226 hc2.sl e227 (by omega) hx501 fun b497 o498 hc499 => ?_
                        exact ⟨_, ⟨b497, o498, rfl, rfl, hc499⟩, hG⟩
                      | 11, ho_ =>
                        obtain rfl := Option.some.inj ho_
                        obtain ⟨b497, o498, e228, eh10, hc499⟩ := (ht.done 10 _ rfl rfl).1
                        have hG := ht.has.drop
                        refine o_load1 (v := (S x500)) Try.underlying9 rfl e228 hG (ht.fr hN (by simp)) hc499 ?_
                        exact ⟨_, ⟨rfl, rfl⟩, hG⟩
                      | 12, ho_ =>
                        obtain rfl := Option.some.inj ho_
                        obtain ⟨e221, eh3⟩ := (ht.done 3 _ rfl rfl).1
                        obtain ⟨e222, eh4⟩ := (ht.done 4 _ rfl rfl).1
                        obtain ⟨b497, o498, e228, eh10, hc499⟩ := (ht.done 10 _ rfl rfl).1
                        have hG := ht.has.drop
                        refine o_ownAddr Try.underlying53 ti9 e221 hc1 e222 (by omega) (by first | omega | (simp only [List.length_append, List.length_cons, List.length_nil, List.length_set]; omega)) fun b502 ho503 => ?_
                        exact ⟨_, ⟨b502, rfl, rfl, ho503⟩, hG⟩
                      | 13, ho_ =>
                        obtain rfl := Option.some.inj ho_
                        obtain ⟨b497, o498, e228, eh10, hc499⟩ := (ht.done 10 _ rfl rfl).1
                        obtain ⟨e229, eh11⟩ := (ht.done 11 _ rfl rfl).1
                        obtain ⟨b502, e230, eh12, ho503⟩ := (ht.done 12 _ rfl rfl).1
                        have hG := ht.has
                        refine o_ownStore (f := sV) (l := (crAS la nw ke j)) (a := x500) ti9 e230 e229 rfl ho503 (by first | omega | (simp only [List.length_append, List.length_cons, List.length_nil, List.length_set]; omega)) hG fun s504 w505 ho506 hH507 => ?_
                        exact ⟨_, ⟨s504, rfl, rfl, ho506⟩, hH507⟩
                      | i_ + 14, ho_ => exact absurd ho_ (by simp)
                    · intro vs508 hs509 w510 hT511 hH512
                      obtain ⟨e0_, eh0_⟩ := hT511 0 _ rfl
                      obtain ⟨e1_, eh1_⟩ := hT511 1 _ rfl
                      obtain ⟨e2_, eh2_⟩ := hT511 2 _ rfl
                      obtain ⟨e3_, eh3_⟩ := hT511 3 _ rfl
                      obtain ⟨e4_, eh4_⟩ := hT511 4 _ rfl
                      obtain ⟨e5_, eh5_⟩ := hT511 5 _ rfl
                      obtain ⟨e6_, eh6_⟩ := hT511 6 _ rfl
                      obtain ⟨e7_, eh7_⟩ := hT511 7 _ rfl
                      obtain ⟨e8_, eh8_⟩ := hT511 8 _ rfl
                      obtain ⟨e9_, eh9_⟩ := hT511 9 _ rfl
                      obtain ⟨b497, o498, e10_, eh10_, hc499⟩ := hT511 10 _ rfl
                      obtain ⟨e11_, eh11_⟩ := hT511 11 _ rfl
                      obtain ⟨b502, e12_, eh12_, ho503⟩ := hT511 12 _ rfl
                      obtain ⟨s504, e13_, eh13_, ho506⟩ := hT511 13 _ rfl
                      have hH513 : Has E w510 ([hN, [Hp.one qm (.cells #[v1, v2, v3] 189 (0, 0))], [Hp.one qb (.cells #[(.bool false), (.bool false), (.int .i64 q.left), (.int .i64 q.uses)] 112 (0, 0))], sg468, [Hp.one pb (.cells #[(.bool (backS p).off), (.bool (backS p).armed), (.int .i64 (backS p).left), (.int .i64 (backS p).uses)] 101 (0, 0))], [Hp.one b2 (.cells #[(.int .i64 kd), (.int .i64 n), (.bool ot), dv, kv] 104 (0, 0))], h3, R] ++ [s504]) := flow_back (cs := [s504]) hH512 (by show (hs509 0 ++ (hs509 1 ++ (hs509 2 ++ (hs509 3 ++ (hs509 4 ++ (hs509 5 ++ (hs509 6 ++ (hs509 7 ++ (hs509 8 ++ (hs509 9 ++ (hs509 10 ++ (hs509 11 ++ (hs509 12 ++ (hs509 13 ++ [])))))))))))))) = _; rw [eh0_, eh1_, eh2_, eh3_, eh4_, eh5_, eh6_, eh7_, eh8_, eh9_, eh10_, eh11_, eh12_, eh13_]; rfl)
                      generalize hr515 : puts vs508 _ 0 _ = r514
                      have e516_0 : r514 0 = (.pointer (some ⟨db, 0, none⟩)) := by rw [← hr515]; exact e481_0
                      have e516_1 : r514 1 = (.pointer (some ⟨qm, 0, none⟩)) := by rw [← hr515]; exact e481_1
                      have e516_2 : r514 2 = (.pointer (some ⟨qb, 0, none⟩)) := by rw [← hr515]; exact e481_2
                      have e516_3 : r514 3 = (.agg #[(.int .i64 kd), (.int .i64 n), (.bool ot), dv, kv]) := by rw [← hr515]; exact e481_3
                      have e516_7 : r514 7 = (.pointer (some ⟨b2, 0, none⟩)) := by rw [← hr515]; exact e481_7
                      have e516_8 : r514 8 = (.bool false) := by rw [← hr515]; exact e481_8
                      have e516_9 : r514 9 = (S da.flatten) := by rw [← hr515]; exact e481_9
                      have e516_10 : r514 10 = (.bool false) := by rw [← hr515]; exact e481_10
                      have e516_15 : r514 15 = (.int .i64 (j : Int)) := by rw [← hr515]; exact e481_15
                      have e516_34 : r514 34 = (.int .i64 kd) := by rw [← hr515]; exact e481_34
                      have e516_77 : r514 77 = (.bool (decide (kd = 0))) := by rw [← hr515]; exact e481_77
                      have e516_116 : r514 116 = (.bool (decide (kd = 1))) := by rw [← hr515]; exact e481_116
                      have e516_137 : r514 137 = (.bool (decide (kd = 2))) := by rw [← hr515]; exact e481_137
                      have e516_178 : r514 178 = (.bool (decide (kd = 3))) := by rw [← hr515]; exact e481_178
                      have e516_193 : r514 193 = (.bool (decide (kd = 4))) := by rw [← hr515]; exact e481_193
                      have e516_211 : r514 211 = (.bool (decide ((j : Int) < (((crNS la nw ke j).length : Nat) : Int)))) := by rw [← hr515]; exact rfl
                      have e516_217 : r514 217 = (.bool (decide ((j : Int) ∈ ke))) := by rw [← hr515]; exact rfl
                      refine t_norm (hK491 _ _ ?_)
                      obtain ⟨x520, hx521⟩ : ∃ x_, ((crAS la nw ke j).set (((j : Int)).toNat) x500)[((j : Int)).toNat]? = some x_ := get_some (by first | omega | (rw [List.length_set]; omega))
                      have hH528 : Has E w510 [[Hp.one qm (.cells #[v1, v2, v3] 189 (0, 0))], [Hp.one qb (.cells #[(.bool false), (.bool false), (.int .i64 q.left), (.int .i64 q.uses)] 112 (0, 0))], sg468, [Hp.one pb (.cells #[(.bool (backS p).off), (.bool (backS p).armed), (.int .i64 (backS p).left), (.int .i64 (backS p).uses)] 101 (0, 0))], [Hp.one b2 (.cells #[(.int .i64 kd), (.int .i64 n), (.bool ot), dv, kv] 104 (0, 0))], h3, R, s504, hN] := Has.pick hH513 [1, 1, 1, 1, 1, 1, 1, 1, 0] (by kernel_rfl)
                      refine c_flow [[Hp.one qm (.cells #[v1, v2, v3] 189 (0, 0))], [Hp.one qb (.cells #[(.bool false), (.bool false), (.int .i64 q.left), (.int .i64 q.uses)] 112 (0, 0))], sg468, [Hp.one pb (.cells #[(.bool (backS p).off), (.bool (backS p).armed), (.int .i64 (backS p).left), (.int .i64 (backS p).uses)] 101 (0, 0))], [Hp.one b2 (.cells #[(.int .i64 kd), (.int .i64 n), (.bool ot), dv, kv] 104 (0, 0))], h3, R, s504] (fun i_ => match i_ with | 13 => hN | _ => []) (fun i_ v_ h_ => match i_ with | 0 => v_ = (.pointer (some ⟨qm, 0, none⟩)) ∧ h_ = [] | 1 => v_ = (.pointer (some ⟨qm, 0, none⟩)) ∧ h_ = [] | 2 => v_ = (.pointer (some ⟨qm, 1, none⟩)) ∧ h_ = [] | 3 => v_ = v2 ∧ h_ = [] | 4 => v_ = (.int .i64 (j : Int)) ∧ h_ = [] | 5 => v_ = (.pointer (some ⟨qm, 0, none⟩)) ∧ h_ = [] | 6 => v_ = (.pointer (some ⟨qm, 0, none⟩)) ∧ h_ = [] | 7 => v_ = (.pointer (some ⟨qm, 0, none⟩)) ∧ h_ = [] | 8 => v_ = v1 ∧ h_ = [] | 9 => v_ = (.int .i64 (j : Int)) ∧ h_ = [] | 10 => ∃ (b517 : Nat) (o518 : Nat), v_ = (.pointer (some ⟨b517, o518, none⟩)) ∧ h_ = [] ∧ (CellsAt s504 b517 o518 [(S x520)]) | 11 => v_ = (S x520) ∧ h_ = [] | 12 => ∃ (b522 : Nat), v_ = (.pointer (some ⟨b522, ((j : Int)).toNat, none⟩)) ∧ h_ = [] ∧ (OwnAt 9 v2 ((crNS la nw ke j).length) ((crNS la nw ke j).map sV) hN b522) | 13 => ∃ (s524 : List Hp), v_ = undef ∧ h_ = s524 ∧ (Own 9 1 v2 ((crNS la nw ke j).set (((j : Int)).toNat) x520).length (((crNS la nw ke j).set (((j : Int)).toNat) x520).map sV) s524) | _ => True) mixed (by kernel_rfl) (flow_has (cs := [hN]) hH528 rfl) ?_ ?_
                      · intro i_ o_ ho_ r' w' G hs_ ht
                        match i_, ho_ with
                        | 0, ho_ =>
                          obtain rfl := Option.some.inj ho_
                          have e1 : r' 1 = (.pointer (some ⟨qm, 0, none⟩)) := (ht.was 1 (by kernel_rfl)).trans e516_1
                          have hG := ht.has.drop
                          refine o_move (v := (.pointer (some ⟨qm, 0, none⟩))) e1 ?_
                          exact ⟨_, ⟨rfl, rfl⟩, hG⟩
                        | 1, ho_ =>
                          obtain rfl := Option.some.inj ho_
                          obtain ⟨e231, eh0⟩ := (ht.done 0 _ rfl rfl).1
                          have hG := ht.has.drop
                          refine o_nilCheck e231 ?_
                          exact ⟨_, ⟨rfl, rfl⟩, hG⟩
                        | 2, ho_ =>
                          obtain rfl := Option.some.inj ho_
                          obtain ⟨e232, eh1⟩ := (ht.done 1 _ rfl rfl).1
                          have hG := ht.has.drop
                          refine o_fieldAddr (k := 1) (fun _ => by kernel_rfl) e232 ?_
                          exact ⟨_, ⟨rfl, rfl⟩, hG⟩
                        | 3, ho_ =>
                          obtain rfl := Option.some.inj ho_
                          obtain ⟨e233, eh2⟩ := (ht.done 2 _ rfl rfl).1
                          have hG := ht.has.drop
                          refine o_load1 (v := v2) Try.underlying53 rfl e233 hG (ht.fr [Hp.one qm (.cells #[v1, v2, v3] 189 (0, 0))] (by simp)) (CellsAt.one rfl) ?_
                          exact ⟨_, ⟨rfl, rfl⟩, hG⟩
                        | 4, ho_ =>
                          obtain rfl := Option.some.inj ho_
                          have e15 : r' 15 = (.int .i64 (j : Int)) := (ht.was 15 (by kernel_rfl)).trans e516_15
                          have hG := ht.has.drop
                          refine o_move (v := (.int .i64 (j : Int))) e15 ?_
                          exact ⟨_, ⟨rfl, rfl⟩, hG⟩
                        | 5, ho_ =>
                          obtain rfl := Option.some.inj ho_
                          have e1 : r' 1 = (.pointer (some ⟨qm, 0, none⟩)) := (ht.was 1 (by kernel_rfl)).trans e516_1
                          have hG := ht.has.drop
                          refine o_move (v := (.pointer (some ⟨qm, 0, none⟩))) e1 ?_
                          exact ⟨_, ⟨rfl, rfl⟩, hG⟩
                        | 6, ho_ =>
                          obtain rfl := Option.some.inj ho_
                          obtain ⟨e236, eh5⟩ := (ht.done 5 _ rfl rfl).1
                          have hG := ht.has.drop
                          refine o_nilCheck e236 ?_
                          exact ⟨_, ⟨rfl, rfl⟩, hG⟩
                        | 7, ho_ =>
                          obtain rfl := Option.some.inj ho_
                          obtain ⟨e237, eh6⟩ := (ht.done 6 _ rfl rfl).1
                          have hG := ht.has.drop
                          refine o_fieldAddr (k := 0) (fun _ => by kernel_rfl) e237 ?_
                          exact ⟨_, ⟨rfl, rfl⟩, hG⟩
                        | 8, ho_ =>
                          obtain rfl := Option.some.inj ho_
                          obtain ⟨e238, eh7⟩ := (ht.done 7 _ rfl rfl).1
                          have hG := ht.has.drop
                          refine o_load1 (v := v1) Try.underlying53 rfl e238 hG (ht.fr [Hp.one qm (.cells #[v1, v2, v3] 189 (0, 0))] (by simp)) (CellsAt.one rfl) ?_
                          exact ⟨_, ⟨rfl, rfl⟩, hG⟩
                        | 9, ho_ =>
                          obtain rfl := Option.some.inj ho_
                          have e15 : r' 15 = (.int .i64 (j : Int)) := (ht.was 15 (by kernel_rfl)).trans e516_15
                          have hG := ht.has.drop
                          refine o_move (v := (.int .i64 (j : Int))) e15 ?_
                          exact ⟨_, ⟨rfl, rfl⟩, hG⟩
                        | 10, ho_ =>
                          obtain rfl := Option.some.inj ho_
                          obtain ⟨e239, eh8⟩ := (ht.done 8 _ rfl rfl).1
                          obtain ⟨e240, eh9⟩ := (ht.done 9 _ rfl rfl).1
                          have hG := ht.has.drop
                          refine o_index1 Try.underlying53 ti9 e239 ho506.sl e240 (by omega) hx521 fun b517 o518 hc519 => ?_
                          exact ⟨_, ⟨b517, o518, rfl, rfl, hc519⟩, hG⟩
                        | 11, ho_ =>
                          obtain rfl := Option.some.inj ho_
                          obtain ⟨b517, o518, e241, eh10, hc519⟩ := (ht.done 10 _ rfl rfl).1
                          have hG := ht.has.drop
                          refine o_load1 (v := (S x520)) Try.underlying9 rfl e241 hG (ht.fr s504 (by simp)) hc519 ?_
                          exact ⟨_, ⟨rfl, rfl⟩, hG⟩
                        | 12, ho_ =>
                          obtain rfl := Option.some.inj ho_
                          obtain ⟨e234, eh3⟩ := (ht.done 3 _ rfl rfl).1
                          obtain ⟨e235, eh4⟩ := (ht.done 4 _ rfl rfl).1
                          obtain ⟨b517, o518, e241, eh10, hc519⟩ := (ht.done 10 _ rfl rfl).1
                          have hG := ht.has.drop
                          refine o_ownAddr Try.underlying53 ti9 e234 hc2 e235 (by omega) (by first | omega | (simp only [List.length_append, List.length_cons, List.length_nil, List.length_set]; omega)) fun b522 ho523 => ?_
                          exact ⟨_, ⟨b522, rfl, rfl, ho523⟩, hG⟩
                        | 13, ho_ =>
                          obtain rfl := Option.some.inj ho_
                          obtain ⟨b517, o518, e241, eh10, hc519⟩ := (ht.done 10 _ rfl rfl).1
                          obtain ⟨e242, eh11⟩ := (ht.done 11 _ rfl rfl).1
                          obtain ⟨b522, e243, eh12, ho523⟩ := (ht.done 12 _ rfl rfl).1
                          have hG := ht.has
                          refine o_ownStore (f := sV) (l := (crNS la nw ke j)) (a := x520) ti9 e243 e242 rfl ho523 (by first | omega | (simp only [List.length_append, List.length_cons, List.length_nil, List.length_set]; omega)) hG fun s524 w525 ho526 hH527 => ?_
                          exact ⟨_, ⟨s524, rfl, rfl, ho526⟩, hH527⟩
                        | i_ + 14, ho_ => exact absurd ho_ (by simp)
                      · intro vs528 hs529 w530 hT531 hH532
                        obtain ⟨e0_, eh0_⟩ := hT531 0 _ rfl
                        obtain ⟨e1_, eh1_⟩ := hT531 1 _ rfl
                        obtain ⟨e2_, eh2_⟩ := hT531 2 _ rfl
                        obtain ⟨e3_, eh3_⟩ := hT531 3 _ rfl
                        obtain ⟨e4_, eh4_⟩ := hT531 4 _ rfl
                        obtain ⟨e5_, eh5_⟩ := hT531 5 _ rfl
                        obtain ⟨e6_, eh6_⟩ := hT531 6 _ rfl
                        obtain ⟨e7_, eh7_⟩ := hT531 7 _ rfl
                        obtain ⟨e8_, eh8_⟩ := hT531 8 _ rfl
                        obtain ⟨e9_, eh9_⟩ := hT531 9 _ rfl
                        obtain ⟨b517, o518, e10_, eh10_, hc519⟩ := hT531 10 _ rfl
                        obtain ⟨e11_, eh11_⟩ := hT531 11 _ rfl
                        obtain ⟨b522, e12_, eh12_, ho523⟩ := hT531 12 _ rfl
                        obtain ⟨s524, e13_, eh13_, ho526⟩ := hT531 13 _ rfl
                        have hH533 : Has E w530 ([[Hp.one qm (.cells #[v1, v2, v3] 189 (0, 0))], [Hp.one qb (.cells #[(.bool false), (.bool false), (.int .i64 q.left), (.int .i64 q.uses)] 112 (0, 0))], sg468, [Hp.one pb (.cells #[(.bool (backS p).off), (.bool (backS p).armed), (.int .i64 (backS p).left), (.int .i64 (backS p).uses)] 101 (0, 0))], [Hp.one b2 (.cells #[(.int .i64 kd), (.int .i64 n), (.bool ot), dv, kv] 104 (0, 0))], h3, R, s504] ++ [s524]) := flow_back (cs := [s524]) hH532 (by show (hs529 0 ++ (hs529 1 ++ (hs529 2 ++ (hs529 3 ++ (hs529 4 ++ (hs529 5 ++ (hs529 6 ++ (hs529 7 ++ (hs529 8 ++ (hs529 9 ++ (hs529 10 ++ (hs529 11 ++ (hs529 12 ++ (hs529 13 ++ [])))))))))))))) = _; rw [eh0_, eh1_, eh2_, eh3_, eh4_, eh5_, eh6_, eh7_, eh8_, eh9_, eh10_, eh11_, eh12_, eh13_]; rfl)
                        generalize hr535 : puts vs528 _ 0 _ = r534
                        have e536_0 : r534 0 = (.pointer (some ⟨db, 0, none⟩)) := by rw [← hr535]; exact e516_0
                        have e536_1 : r534 1 = (.pointer (some ⟨qm, 0, none⟩)) := by rw [← hr535]; exact e516_1
                        have e536_2 : r534 2 = (.pointer (some ⟨qb, 0, none⟩)) := by rw [← hr535]; exact e516_2
                        have e536_3 : r534 3 = (.agg #[(.int .i64 kd), (.int .i64 n), (.bool ot), dv, kv]) := by rw [← hr535]; exact e516_3
                        have e536_7 : r534 7 = (.pointer (some ⟨b2, 0, none⟩)) := by rw [← hr535]; exact e516_7
                        have e536_8 : r534 8 = (.bool false) := by rw [← hr535]; exact e516_8
                        have e536_9 : r534 9 = (S da.flatten) := by rw [← hr535]; exact e516_9
                        have e536_10 : r534 10 = (.bool false) := by rw [← hr535]; exact e516_10
                        have e536_15 : r534 15 = (.int .i64 (j : Int)) := by rw [← hr535]; exact e516_15
                        have e536_34 : r534 34 = (.int .i64 kd) := by rw [← hr535]; exact e516_34
                        have e536_77 : r534 77 = (.bool (decide (kd = 0))) := by rw [← hr535]; exact e516_77
                        have e536_116 : r534 116 = (.bool (decide (kd = 1))) := by rw [← hr535]; exact e516_116
                        have e536_137 : r534 137 = (.bool (decide (kd = 2))) := by rw [← hr535]; exact e516_137
                        have e536_178 : r534 178 = (.bool (decide (kd = 3))) := by rw [← hr535]; exact e516_178
                        have e536_193 : r534 193 = (.bool (decide (kd = 4))) := by rw [← hr535]; exact e516_193
                        have e536_211 : r534 211 = (.bool (decide ((j : Int) < (((crNS la nw ke j).length : Nat) : Int)))) := by rw [← hr535]; exact e516_211
                        have e536_217 : r534 217 = (.bool (decide ((j : Int) ∈ ke))) := by rw [← hr535]; exact e516_217
                        refine b_norm ?_
                        refine t_norm (hK490 _ _ ?_)
                        refine c_region ?_
                        refine s_op (o_move (v := (.int .i64 (j : Int))) e536_15 ?_)
                        refine s_op (o_add (a := (j : Int)) (b := 1) rfl rfl (w64 (by omega) (by omega)) ?_)
                        refine s_op (o_assign (v := (.int .i64 ((j : Int) + 1))) rfl ?_)
                        refine s_nil ?_
                        have hH537 : Has E w530 [s504, s524, [Hp.one qm (.cells #[v1, v2, v3] 189 (0, 0))], [Hp.one qb (.cells #[(.bool false), (.bool false), (.int .i64 q.left), (.int .i64 q.uses)] 112 (0, 0))], sg468, [Hp.one pb (.cells #[(.bool (backS p).off), (.bool (backS p).armed), (.int .i64 (backS p).left), (.int .i64 (backS p).uses)] 101 (0, 0))], [Hp.one b2 (.cells #[(.int .i64 kd), (.int .i64 n), (.bool ot), dv, kv] 104 (0, 0))], h3, R] := Has.pick hH533 [7, 7, 0, 0, 0, 0, 0, 0, 0] (by kernel_rfl)
                        refine t_norm ⟨la.length - (j + 1), _, rfl, ?_, ?_⟩
                        · omega
                        · exact ⟨(j + 1), s504, s524, rfl, hH537, (by omega), (by rw [← crA_yes (by omega) h496 (show (crNS la nw ke j)[j]? = some _ from hx501)]; exact ho506), (by rw [← crN_step (by omega) (by rw [← crA_yes (by omega) h496 (show (crNS la nw ke j)[j]? = some _ from hx501)]; exact hx521)]; exact ho526), e536_0, e536_1, e536_2, e536_3, e536_7, e536_8, e536_9, e536_10, rfl, e536_34, e536_77, e536_116, e536_137, e536_178, e536_193⟩
                  · -- not: (j : Int) ∈ ke
                    refine wp_skip ?_
                    refine t_norm (hK491 _ _ ?_)
                    obtain ⟨x541, hx542⟩ : ∃ x_, (crAS la nw ke j)[((j : Int)).toNat]? = some x_ := get_some (by first | omega | (rw [List.length_set]; omega))
                    have hH549 : Has E w495 [hA, [Hp.one qm (.cells #[v1, v2, v3] 189 (0, 0))], [Hp.one qb (.cells #[(.bool false), (.bool false), (.int .i64 q.left), (.int .i64 q.uses)] 112 (0, 0))], sg468, [Hp.one pb (.cells #[(.bool (backS p).off), (.bool (backS p).armed), (.int .i64 (backS p).left), (.int .i64 (backS p).uses)] 101 (0, 0))], [Hp.one b2 (.cells #[(.int .i64 kd), (.int .i64 n), (.bool ot), dv, kv] 104 (0, 0))], h3, R, hN] := Has.pick hH494 [0, 1, 1, 1, 1, 1, 1, 1, 0] (by kernel_rfl)
                    refine c_flow [hA, [Hp.one qm (.cells #[v1, v2, v3] 189 (0, 0))], [Hp.one qb (.cells #[(.bool false), (.bool false), (.int .i64 q.left), (.int .i64 q.uses)] 112 (0, 0))], sg468, [Hp.one pb (.cells #[(.bool (backS p).off), (.bool (backS p).armed), (.int .i64 (backS p).left), (.int .i64 (backS p).uses)] 101 (0, 0))], [Hp.one b2 (.cells #[(.int .i64 kd), (.int .i64 n), (.bool ot), dv, kv] 104 (0, 0))], h3, R] (fun i_ => match i_ with | 13 => hN | _ => []) (fun i_ v_ h_ => match i_ with | 0 => v_ = (.pointer (some ⟨qm, 0, none⟩)) ∧ h_ = [] | 1 => v_ = (.pointer (some ⟨qm, 0, none⟩)) ∧ h_ = [] | 2 => v_ = (.pointer (some ⟨qm, 1, none⟩)) ∧ h_ = [] | 3 => v_ = v2 ∧ h_ = [] | 4 => v_ = (.int .i64 (j : Int)) ∧ h_ = [] | 5 => v_ = (.pointer (some ⟨qm, 0, none⟩)) ∧ h_ = [] | 6 => v_ = (.pointer (some ⟨qm, 0, none⟩)) ∧ h_ = [] | 7 => v_ = (.pointer (some ⟨qm, 0, none⟩)) ∧ h_ = [] | 8 => v_ = v1 ∧ h_ = [] | 9 => v_ = (.int .i64 (j : Int)) ∧ h_ = [] | 10 => ∃ (b538 : Nat) (o539 : Nat), v_ = (.pointer (some ⟨b538, o539, none⟩)) ∧ h_ = [] ∧ (CellsAt hA b538 o539 [(S x541)]) | 11 => v_ = (S x541) ∧ h_ = [] | 12 => ∃ (b543 : Nat), v_ = (.pointer (some ⟨b543, ((j : Int)).toNat, none⟩)) ∧ h_ = [] ∧ (OwnAt 9 v2 ((crNS la nw ke j).length) ((crNS la nw ke j).map sV) hN b543) | 13 => ∃ (s545 : List Hp), v_ = undef ∧ h_ = s545 ∧ (Own 9 1 v2 ((crNS la nw ke j).set (((j : Int)).toNat) x541).length (((crNS la nw ke j).set (((j : Int)).toNat) x541).map sV) s545) | _ => True) mixed (by kernel_rfl) (flow_has (cs := [hN]) hH549 rfl) ?_ ?_
                    · intro i_ o_ ho_ r' w' G hs_ ht
                      match i_, ho_ with
                      | 0, ho_ =>
                        obtain rfl := Option.some.inj ho_
                        have e1 : r' 1 = (.pointer (some ⟨qm, 0, none⟩)) := (ht.was 1 (by kernel_rfl)).trans e481_1
                        have hG := ht.has.drop
                        refine o_move (v := (.pointer (some ⟨qm, 0, none⟩))) e1 ?_
                        exact ⟨_, ⟨rfl, rfl⟩, hG⟩
                      | 1, ho_ =>
                        obtain rfl := Option.some.inj ho_
                        obtain ⟨e231, eh0⟩ := (ht.done 0 _ rfl rfl).1
                        have hG := ht.has.drop
                        refine o_nilCheck e231 ?_
                        exact ⟨_, ⟨rfl, rfl⟩, hG⟩
                      | 2, ho_ =>
                        obtain rfl := Option.some.inj ho_
                        obtain ⟨e232, eh1⟩ := (ht.done 1 _ rfl rfl).1
                        have hG := ht.has.drop
                        refine o_fieldAddr (k := 1) (fun _ => by kernel_rfl) e232 ?_
                        exact ⟨_, ⟨rfl, rfl⟩, hG⟩
                      | 3, ho_ =>
                        obtain rfl := Option.some.inj ho_
                        obtain ⟨e233, eh2⟩ := (ht.done 2 _ rfl rfl).1
                        have hG := ht.has.drop
                        refine o_load1 (v := v2) Try.underlying53 rfl e233 hG (ht.fr [Hp.one qm (.cells #[v1, v2, v3] 189 (0, 0))] (by simp)) (CellsAt.one rfl) ?_
                        exact ⟨_, ⟨rfl, rfl⟩, hG⟩
                      | 4, ho_ =>
                        obtain rfl := Option.some.inj ho_
                        have e15 : r' 15 = (.int .i64 (j : Int)) := (ht.was 15 (by kernel_rfl)).trans e481_15
                        have hG := ht.has.drop
                        refine o_move (v := (.int .i64 (j : Int))) e15 ?_
                        exact ⟨_, ⟨rfl, rfl⟩, hG⟩
                      | 5, ho_ =>
                        obtain rfl := Option.some.inj ho_
                        have e1 : r' 1 = (.pointer (some ⟨qm, 0, none⟩)) := (ht.was 1 (by kernel_rfl)).trans e481_1
                        have hG := ht.has.drop
                        refine o_move (v := (.pointer (some ⟨qm, 0, none⟩))) e1 ?_
                        exact ⟨_, ⟨rfl, rfl⟩, hG⟩
                      | 6, ho_ =>
                        obtain rfl := Option.some.inj ho_
                        obtain ⟨e236, eh5⟩ := (ht.done 5 _ rfl rfl).1
                        have hG := ht.has.drop
                        refine o_nilCheck e236 ?_
                        exact ⟨_, ⟨rfl, rfl⟩, hG⟩
                      | 7, ho_ =>
                        obtain rfl := Option.some.inj ho_
                        obtain ⟨e237, eh6⟩ := (ht.done 6 _ rfl rfl).1
                        have hG := ht.has.drop
                        refine o_fieldAddr (k := 0) (fun _ => by kernel_rfl) e237 ?_
                        exact ⟨_, ⟨rfl, rfl⟩, hG⟩
                      | 8, ho_ =>
                        obtain rfl := Option.some.inj ho_
                        obtain ⟨e238, eh7⟩ := (ht.done 7 _ rfl rfl).1
                        have hG := ht.has.drop
                        refine o_load1 (v := v1) Try.underlying53 rfl e238 hG (ht.fr [Hp.one qm (.cells #[v1, v2, v3] 189 (0, 0))] (by simp)) (CellsAt.one rfl) ?_
                        exact ⟨_, ⟨rfl, rfl⟩, hG⟩
                      | 9, ho_ =>
                        obtain rfl := Option.some.inj ho_
                        have e15 : r' 15 = (.int .i64 (j : Int)) := (ht.was 15 (by kernel_rfl)).trans e481_15
                        have hG := ht.has.drop
                        refine o_move (v := (.int .i64 (j : Int))) e15 ?_
                        exact ⟨_, ⟨rfl, rfl⟩, hG⟩
                      | 10, ho_ =>
                        obtain rfl := Option.some.inj ho_
                        obtain ⟨e239, eh8⟩ := (ht.done 8 _ rfl rfl).1
                        obtain ⟨e240, eh9⟩ := (ht.done 9 _ rfl rfl).1
                        have hG := ht.has.drop
                        refine o_index1 Try.underlying53 ti9 e239 hc1.sl e240 (by omega) hx542 fun b538 o539 hc540 => ?_
                        exact ⟨_, ⟨b538, o539, rfl, rfl, hc540⟩, hG⟩
                      | 11, ho_ =>
                        obtain rfl := Option.some.inj ho_
                        obtain ⟨b538, o539, e241, eh10, hc540⟩ := (ht.done 10 _ rfl rfl).1
                        have hG := ht.has.drop
                        refine o_load1 (v := (S x541)) Try.underlying9 rfl e241 hG (ht.fr hA (by simp)) hc540 ?_
                        exact ⟨_, ⟨rfl, rfl⟩, hG⟩
                      | 12, ho_ =>
                        obtain rfl := Option.some.inj ho_
                        obtain ⟨e234, eh3⟩ := (ht.done 3 _ rfl rfl).1
                        obtain ⟨e235, eh4⟩ := (ht.done 4 _ rfl rfl).1
                        obtain ⟨b538, o539, e241, eh10, hc540⟩ := (ht.done 10 _ rfl rfl).1
                        have hG := ht.has.drop
                        refine o_ownAddr Try.underlying53 ti9 e234 hc2 e235 (by omega) (by first | omega | (simp only [List.length_append, List.length_cons, List.length_nil, List.length_set]; omega)) fun b543 ho544 => ?_
                        exact ⟨_, ⟨b543, rfl, rfl, ho544⟩, hG⟩
                      | 13, ho_ =>
                        obtain rfl := Option.some.inj ho_
                        obtain ⟨b538, o539, e241, eh10, hc540⟩ := (ht.done 10 _ rfl rfl).1
                        obtain ⟨e242, eh11⟩ := (ht.done 11 _ rfl rfl).1
                        obtain ⟨b543, e243, eh12, ho544⟩ := (ht.done 12 _ rfl rfl).1
                        have hG := ht.has
                        refine o_ownStore (f := sV) (l := (crNS la nw ke j)) (a := x541) ti9 e243 e242 rfl ho544 (by first | omega | (simp only [List.length_append, List.length_cons, List.length_nil, List.length_set]; omega)) hG fun s545 w546 ho547 hH548 => ?_
                        exact ⟨_, ⟨s545, rfl, rfl, ho547⟩, hH548⟩
                      | i_ + 14, ho_ => exact absurd ho_ (by simp)
                    · intro vs549 hs550 w551 hT552 hH553
                      obtain ⟨e0_, eh0_⟩ := hT552 0 _ rfl
                      obtain ⟨e1_, eh1_⟩ := hT552 1 _ rfl
                      obtain ⟨e2_, eh2_⟩ := hT552 2 _ rfl
                      obtain ⟨e3_, eh3_⟩ := hT552 3 _ rfl
                      obtain ⟨e4_, eh4_⟩ := hT552 4 _ rfl
                      obtain ⟨e5_, eh5_⟩ := hT552 5 _ rfl
                      obtain ⟨e6_, eh6_⟩ := hT552 6 _ rfl
                      obtain ⟨e7_, eh7_⟩ := hT552 7 _ rfl
                      obtain ⟨e8_, eh8_⟩ := hT552 8 _ rfl
                      obtain ⟨e9_, eh9_⟩ := hT552 9 _ rfl
                      obtain ⟨b538, o539, e10_, eh10_, hc540⟩ := hT552 10 _ rfl
                      obtain ⟨e11_, eh11_⟩ := hT552 11 _ rfl
                      obtain ⟨b543, e12_, eh12_, ho544⟩ := hT552 12 _ rfl
                      obtain ⟨s545, e13_, eh13_, ho547⟩ := hT552 13 _ rfl
                      have hH554 : Has E w551 ([hA, [Hp.one qm (.cells #[v1, v2, v3] 189 (0, 0))], [Hp.one qb (.cells #[(.bool false), (.bool false), (.int .i64 q.left), (.int .i64 q.uses)] 112 (0, 0))], sg468, [Hp.one pb (.cells #[(.bool (backS p).off), (.bool (backS p).armed), (.int .i64 (backS p).left), (.int .i64 (backS p).uses)] 101 (0, 0))], [Hp.one b2 (.cells #[(.int .i64 kd), (.int .i64 n), (.bool ot), dv, kv] 104 (0, 0))], h3, R] ++ [s545]) := flow_back (cs := [s545]) hH553 (by show (hs550 0 ++ (hs550 1 ++ (hs550 2 ++ (hs550 3 ++ (hs550 4 ++ (hs550 5 ++ (hs550 6 ++ (hs550 7 ++ (hs550 8 ++ (hs550 9 ++ (hs550 10 ++ (hs550 11 ++ (hs550 12 ++ (hs550 13 ++ [])))))))))))))) = _; rw [eh0_, eh1_, eh2_, eh3_, eh4_, eh5_, eh6_, eh7_, eh8_, eh9_, eh10_, eh11_, eh12_, eh13_]; rfl)
                      generalize hr556 : puts vs549 _ 0 _ = r555
                      have e557_0 : r555 0 = (.pointer (some ⟨db, 0, none⟩)) := by rw [← hr556]; exact e481_0
                      have e557_1 : r555 1 = (.pointer (some ⟨qm, 0, none⟩)) := by rw [← hr556]; exact e481_1
                      have e557_2 : r555 2 = (.pointer (some ⟨qb, 0, none⟩)) := by rw [← hr556]; exact e481_2
                      have e557_3 : r555 3 = (.agg #[(.int .i64 kd), (.int .i64 n), (.bool ot), dv, kv]) := by rw [← hr556]; exact e481_3
                      have e557_7 : r555 7 = (.pointer (some ⟨b2, 0, none⟩)) := by rw [← hr556]; exact e481_7
                      have e557_8 : r555 8 = (.bool false) := by rw [← hr556]; exact e481_8
                      have e557_9 : r555 9 = (S da.flatten) := by rw [← hr556]; exact e481_9
                      have e557_10 : r555 10 = (.bool false) := by rw [← hr556]; exact e481_10
                      have e557_15 : r555 15 = (.int .i64 (j : Int)) := by rw [← hr556]; exact e481_15
                      have e557_34 : r555 34 = (.int .i64 kd) := by rw [← hr556]; exact e481_34
                      have e557_77 : r555 77 = (.bool (decide (kd = 0))) := by rw [← hr556]; exact e481_77
                      have e557_116 : r555 116 = (.bool (decide (kd = 1))) := by rw [← hr556]; exact e481_116
                      have e557_137 : r555 137 = (.bool (decide (kd = 2))) := by rw [← hr556]; exact e481_137
                      have e557_178 : r555 178 = (.bool (decide (kd = 3))) := by rw [← hr556]; exact e481_178
                      have e557_193 : r555 193 = (.bool (decide (kd = 4))) := by rw [← hr556]; exact e481_193
                      have e557_211 : r555 211 = (.bool (decide ((j : Int) < (((crNS la nw ke j).length : Nat) : Int)))) := by rw [← hr556]; exact rfl
                      have e557_217 : r555 217 = (.bool (decide ((j : Int) ∈ ke))) := by rw [← hr556]; exact rfl
                      refine b_norm ?_
                      refine t_norm (hK490 _ _ ?_)
                      refine c_region ?_
                      refine s_op (o_move (v := (.int .i64 (j : Int))) e557_15 ?_)
                      refine s_op (o_add (a := (j : Int)) (b := 1) rfl rfl (w64 (by omega) (by omega)) ?_)
                      refine s_op (o_assign (v := (.int .i64 ((j : Int) + 1))) rfl ?_)
                      refine s_nil ?_
                      have hH558 : Has E w551 [hA, s545, [Hp.one qm (.cells #[v1, v2, v3] 189 (0, 0))], [Hp.one qb (.cells #[(.bool false), (.bool false), (.int .i64 q.left), (.int .i64 q.uses)] 112 (0, 0))], sg468, [Hp.one pb (.cells #[(.bool (backS p).off), (.bool (backS p).armed), (.int .i64 (backS p).left), (.int .i64 (backS p).uses)] 101 (0, 0))], [Hp.one b2 (.cells #[(.int .i64 kd), (.int .i64 n), (.bool ot), dv, kv] 104 (0, 0))], h3, R] := Has.pick hH554 [0, 7, 0, 0, 0, 0, 0, 0, 0] (by kernel_rfl)
                      refine t_norm ⟨la.length - (j + 1), _, rfl, ?_, ?_⟩
                      · omega
                      · exact ⟨(j + 1), hA, s545, rfl, hH558, (by omega), (by rw [← crA_no h496]; exact hc1), (by rw [← crN_step (by omega) (by rw [← crA_no h496]; exact hx542)]; exact ho547), e557_0, e557_1, e557_2, e557_3, e557_7, e557_8, e557_9, e557_10, rfl, e557_34, e557_77, e557_116, e557_137, e557_178, e557_193⟩
                · -- not: (j : Int) < (((crNS la nw ke j).length : Nat) : Int)
                  refine wp_exit ?_
                  refine t_exit (t_exit (x_in (?_)))
                  refine t_norm (hK479 _ _ ?_)
                  refine c_region ?_
                  refine s_op (o_move (v := (.pointer (some ⟨qm, 0, none⟩))) e481_1 ?_)
                  refine s_op (o_nilCheck rfl ?_)
                  refine s_op (o_fieldAddr (k := 2) (fun _ => by kernel_rfl) rfl ?_)
                  refine s_eff (o_store1 (c' := #[v1, v2, (.slice none 0 0)]) ti54 rfl rfl rfl (by simp) rfl (hH485.front 2 rfl) fun w559 hH560 => ?_)
                  refine s_nil ?_
                  refine b_norm ?_
                  refine t_norm (hK373 _ _ ?_)
                  refine wp_seq_k fun K561 hK561 => ?_
                  refine c_region ?_
                  refine s_op (o_assign (v := (.bool true)) rfl ?_)
                  refine s_nil ?_
                  refine t_norm (hK561 _ _ ?_)
                  refine wp_ret ?_
                  refine c_ret1 Try.results55  (v := (.bool true)) rfl ?_
                  have hH562 : Has E w559 [sg468, [Hp.one pb (.cells #[(.bool (backS p).off), (.bool (backS p).armed), (.int .i64 (backS p).left), (.int .i64 (backS p).uses)] 101 (0, 0))], hA, hN, [], [Hp.one qm (.cells #[v1, v2, (.slice none 0 0)] 189 (0, 0))], [Hp.one qb (.cells #[(.bool false), (.bool false), (.int .i64 q.left), (.int .i64 q.uses)] 112 (0, 0))], R] := Has.pick (Has.nil hH560) [5, 5, 2, 2, 0, 0, 0, 2] (by kernel_rfl)
                  obtain ⟨hc1_, hc2_, hc3_⟩ := hsim.crash ke
                  have hjl_ : j = la.length := by omega
                  exact ⟨_, _, _, (backS p), _, _, _, _, _, _, _, _, _, rfl, hd469, (settle_len _ _ _), hc3_, hpr.back.mono (by omega), (by rw [← hc1_, ← hjl_]; exact hc1), (by rw [← hc2_, ← hjl_]; exact hc2), (Own.nil 3 1), hH562⟩
              · -- not: kd = 4
                refine wp_seq_k fun K563 hK563 => ?_
                refine c_region ?_
                refine s_op (o_assign (v := (.int .i64 0)) rfl ?_)
                refine s_nil ?_
                refine t_norm (hK563 _ _ ?_)
                refine wp_seq_k fun K564 hK564 => ?_
                refine wp_seq_k fun K565 hK565 => ?_
                refine c_region ?_
                refine s_op (o_move (v := (.bool false)) e372_10 ?_)
                refine s_op (o_not rfl ?_)
                refine s_op (o_move (v := (.bool true)) rfl ?_)
                refine s_off (b' := true) 37 rfl rfl rfl ?_
                refine s_off (b' := true) 37 rfl rfl rfl ?_
                refine s_off (b' := true) 37 rfl rfl rfl ?_
                refine s_op (o_pick_t (u := (.bool true)) rfl rfl ?_)
                refine s_nil ?_
                refine t_norm (hK565 _ _ ?_)
                refine c_true rfl rfl ?_
                refine c_region ?_
                refine s_op (o_assign (v := (.int .i64 1)) rfl ?_)
                refine s_nil ?_
                refine t_norm (hK564 _ _ ?_)
                refine wp_seq_k fun K566 hK566 => ?_
                refine c_region ?_
                refine s_op (o_move (v := (.pointer (some ⟨db, 0, none⟩))) e372_0 ?_)
                refine s_op (o_fieldAddr (k := 1) (fun _ => by kernel_rfl) e372_7 ?_)
                refine s_op (o_load1 (v := (.int .i64 n)) Try.underlying3 rfl rfl hH369 (seg_sub 0 rfl) (CellsAt.one rfl) ?_)
                refine s_op (o_move (v := (S da.flatten)) e372_9 ?_)
                refine s_op (o_callf (vs := #[(.pointer (some ⟨db, 0, none⟩)), (.int .i64 n), (S da.flatten)]) ca52 rfl (args3 rfl rfl rfl) (put_d (p := p) (la := la) (lo := lo) ((hH369.front 2 rfl).front 2 rfl).all2 hd n da.flatten (by omega)) ?_)
                rintro _ w571 ⟨sg567, rfl, hd568, hX569⟩
                refine ⟨_, rfl, ?_⟩
                have hH570 : Has E w571 [sg567, [Hp.one pb (.cells #[(.bool p.off), (.bool p.armed), (.int .i64 p.left), (.int .i64 p.uses)] 101 (0, 0))], [Hp.one b2 (.cells #[(.int .i64 kd), (.int .i64 n), (.bool ot), dv, kv] 104 (0, 0))], h1, h2, h3, [Hp.one qm (.cells #[v1, v2, v3] 189 (0, 0))], [Hp.one qb (.cells #[(.bool q.off), (.bool q.armed), (.int .i64 q.left), (.int .i64 q.uses)] 112 (0, 0))], R] := hX569.of_all2
                refine s_op (o_move (v := (.int .i64 1)) rfl ?_)
                refine s_op (o_eql (a := putE la.length n da.flatten) (b := 1) rfl rfl ?_)
                refine s_op (o_assign (v := (.bool (decide (putE la.length n da.flatten = 1)))) rfl ?_)
                refine s_nil ?_
                refine t_norm (hK566 _ _ ?_)
                refine wp_ret ?_
                refine b_ret (t_ret (c_ret1 Try.results55  (v := (.bool (decide (putE la.length n da.flatten = 1)))) rfl ?_))
                have hH572 : Has E w571 [sg567, [Hp.one pb (.cells #[(.bool p.off), (.bool p.armed), (.int .i64 p.left), (.int .i64 p.uses)] 101 (0, 0))], h1, h2, h3, [Hp.one qm (.cells #[v1, v2, v3] 189 (0, 0))], [Hp.one qb (.cells #[(.bool q.off), (.bool q.armed), (.int .i64 q.left), (.int .i64 q.uses)] 112 (0, 0))], R] := Has.pick hH570 [0, 0, 1, 1, 1, 1, 1, 1] (by kernel_rfl)
                have hS := hsim.put_bad (n := n) (s := da.flatten) (fun g => by have g1 := g.1; have g2 := g.2.1; have g3 := g.2.2; omega)
                exact ⟨_, _, _, p, _, _, _, _, _, _, _, _, _, by rw [decide_eq_true (show _ = _ from hS.2.1)], hd568, (putA_len _ _ _), hS.1, hpr.mono (by omega), (by rw [hS.2.2]; exact ho1), ho2, ho3, hH572⟩
end Go.Q
