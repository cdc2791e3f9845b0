/-
  Parts of a walk: what functions of the program compute, each told by a theorem.
-/
import Derived.Test.YtcffibbdbalmjaaQE11
set_option linter.unusedVariables false
set_option linter.unusedSimpArgs false
namespace Go.Q
open Go.Proofs
set_option linter.unusedVariables false
set_option maxRecDepth 100000
attribute [local irreducible] wpList OK Code.wp
set_option maxHeartbeats 4000000 in
theorem same5_c {E w : World} {R sg h1 h2 h3 : List Hp} {pb db qm qb k : Nat} {p q : Pw} {la nw : List Bs} {lo : List (Int × Bs)} {ls : List Int} {v1 v2 v3 : Value} (hH : Has E w [sg, [Hp.one pb (.cells #[(.bool p.off), (.bool p.armed), (.int .i64 p.left), (.int .i64 p.uses)] 101 (0, 0))], h1, h2, h3, [Hp.one qm (.cells #[v1, v2, v3] 189 (0, 0))], [Hp.one qb (.cells #[(.bool q.off), (.bool q.armed), (.int .i64 q.left), (.int .i64 q.uses)] 112 (0, 0))], R]) (hd : DevAt pb sg db la lo) (ho1 : Own 9 1 v1 la.length (la.map sV) h1) (ho2 : Own 9 1 v2 nw.length (nw.map sV) h2) (ho3 : Own 3 1 v3 ls.length (ls.map iV) h3) (hsim : Sim la lo nw ls) (hpr : PR k p q) (hk : k ≤ 1000) (hla : la.length ≤ 4096) :
    Calls Try.prog 56 #[(.pointer (some ⟨db, 0, none⟩)), (.pointer (some ⟨qm, 0, none⟩)), (.pointer (some ⟨qb, 0, none⟩))] w fun e w' => e = .returned (.bool true) ∧ Has E w' [sg, [Hp.one pb (.cells #[(.bool p.off), (.bool p.armed), (.int .i64 p.left), (.int .i64 p.uses)] 101 (0, 0))], h1, h2, h3, [Hp.one qm (.cells #[v1, v2, v3] 189 (0, 0))], [Hp.one qb (.cells #[(.bool q.off), (.bool q.armed), (.int .i64 q.left), (.int .i64 q.uses)] 112 (0, 0))], R] := by
  have hnl := hsim.len
  refine c_enter (args := [(.pointer (some ⟨db, 0, none⟩)), (.pointer (some ⟨qm, 0, none⟩)), (.pointer (some ⟨qb, 0, none⟩))]) Try.func56 rfl Try.ntmps56 (by simp) ?_
  refine wp_seq_k fun K1 hK1 => ?_
  refine c_region ?_
  refine s_op (o_assign (v := (.bool false)) rfl ?_)
  refine s_nil ?_
  refine t_norm (hK1 _ _ ?_)
  refine wp_seq_k fun K2 hK2 => ?_
  refine wp_seq_k fun K3 hK3 => ?_
  have hnd4 : (sg ++ [Hp.one pb (.cells #[(.bool p.off), (.bool p.armed), (.int .i64 p.left), (.int .i64 p.uses)] 101 (0, 0))]).Nodup := dev_nodup hd ((hH.front 1 rfl).front 1 rfl)
  rcases Bool.eq_false_or_eq_true ((!p.off) == q.off) with h8 | h8
  · -- (!p.off) == q.off
    exact absurd h8 (by rw [hpr.off]; cases q.off <;> decide)
  · -- not: (!p.off) == q.off
    have hnd9 : (sg ++ [Hp.one pb (.cells #[(.bool p.off), (.bool p.armed), (.int .i64 p.left), (.int .i64 p.uses)] 101 (0, 0))]).Nodup := dev_nodup hd ((hH.front 1 rfl).front 1 rfl)
    have hnd13 : (sg ++ [Hp.one pb (.cells #[(.bool p.off), (.bool p.armed), (.int .i64 p.left), (.int .i64 p.uses)] 101 (0, 0))]).Nodup := dev_nodup hd ((hH.front 1 rfl).front 1 rfl)
    by_cases h17 : p.uses ≠ q.uses
    · -- p.uses ≠ q.uses
      exact absurd hpr.uses h17
    · -- not: p.uses ≠ q.uses
      have hnd18 : (sg ++ [Hp.one pb (.cells #[(.bool p.off), (.bool p.armed), (.int .i64 p.left), (.int .i64 p.uses)] 101 (0, 0))]).Nodup := dev_nodup hd ((hH.front 1 rfl).front 1 rfl)
      have hnd22 : (sg ++ [Hp.one pb (.cells #[(.bool p.off), (.bool p.armed), (.int .i64 p.left), (.int .i64 p.uses)] 101 (0, 0))]).Nodup := dev_nodup hd ((hH.front 1 rfl).front 1 rfl)
      have hnd26 : (sg ++ [Hp.one pb (.cells #[(.bool p.off), (.bool p.armed), (.int .i64 p.left), (.int .i64 p.uses)] 101 (0, 0))]).Nodup := dev_nodup hd ((hH.front 1 rfl).front 1 rfl)
      by_cases h30 : ((la.length : Nat) : Int) ≠ ((nw.length : Nat) : Int)
      · -- ((la.length : Nat) : Int) ≠ ((nw.length : Nat) : Int)
        exfalso; omega
      · -- not: ((la.length : Nat) : Int) ≠ ((nw.length : Nat) : Int)
        have hnd31 : (sg ++ [Hp.one pb (.cells #[(.bool p.off), (.bool p.armed), (.int .i64 p.left), (.int .i64 p.uses)] 101 (0, 0))]).Nodup := dev_nodup hd ((hH.front 1 rfl).front 1 rfl)
        have hnd35 : (sg ++ [Hp.one pb (.cells #[(.bool p.off), (.bool p.armed), (.int .i64 p.left), (.int .i64 p.uses)] 101 (0, 0))]).Nodup := dev_nodup hd ((hH.front 1 rfl).front 1 rfl)
        have hnd39 : (sg ++ [Hp.one pb (.cells #[(.bool p.off), (.bool p.armed), (.int .i64 p.left), (.int .i64 p.uses)] 101 (0, 0))]).Nodup := dev_nodup hd ((hH.front 1 rfl).front 1 rfl)
        have hnd43 : (sg ++ [Hp.one pb (.cells #[(.bool p.off), (.bool p.armed), (.int .i64 p.left), (.int .i64 p.uses)] 101 (0, 0))]).Nodup := dev_nodup hd ((hH.front 1 rfl).front 1 rfl)
        refine c_flow3 [sg, [Hp.one pb (.cells #[(.bool p.off), (.bool p.armed), (.int .i64 p.left), (.int .i64 p.uses)] 101 (0, 0))], h1, h2, h3, [Hp.one qm (.cells #[v1, v2, v3] 189 (0, 0))], [Hp.one qb (.cells #[(.bool q.off), (.bool q.armed), (.int .i64 q.left), (.int .i64 q.uses)] 112 (0, 0))], R] (fun i_ => match i_ with | _ => []) (fun i_ v_ h_ m_ => match i_ with | 0 => v_ = (.pointer (some ⟨db, 0, none⟩)) ∧ h_ = [] | 1 => v_ = (.bool (!p.off)) ∧ h_ = [] | 2 => v_ = (.pointer (some ⟨qb, 0, none⟩)) ∧ h_ = [] | 3 => v_ = (.pointer (some ⟨qb, 0, none⟩)) ∧ h_ = [] | 4 => v_ = (.pointer (some ⟨qb, 0, none⟩)) ∧ h_ = [] | 5 => v_ = (.bool q.off) ∧ h_ = [] | 6 => v_ = (.bool ((!p.off) == q.off)) ∧ h_ = [] | 7 => v_ = (.bool ((!p.off) == q.off)) ∧ h_ = [] | 8 => v_ = (.pointer (some ⟨db, 0, none⟩)) ∧ h_ = [] | 9 => v_ = (.int .i64 p.uses) ∧ h_ = [] | 10 => v_ = (.pointer (some ⟨qb, 0, none⟩)) ∧ h_ = [] | 11 => v_ = (.pointer (some ⟨qb, 0, none⟩)) ∧ h_ = [] | 12 => v_ = (.pointer (some ⟨qb, 3, none⟩)) ∧ h_ = [] | 13 => v_ = (.int .i64 q.uses) ∧ h_ = [] | 14 => v_ = (.bool (decide (p.uses ≠ q.uses))) ∧ h_ = [] | 15 => v_ = (.bool (decide (p.uses ≠ q.uses))) ∧ h_ = [] | 16 => v_ = (.bool (decide (p.uses ≠ q.uses))) ∧ h_ = [] | 17 => v_ = (.pointer (some ⟨db, 0, none⟩)) ∧ h_ = [] | 18 => v_ = (.int .i64 ((la.length : Nat) : Int)) ∧ h_ = [] | 19 => v_ = (.pointer (some ⟨qm, 0, none⟩)) ∧ h_ = [] | 20 => v_ = (.pointer (some ⟨qm, 0, none⟩)) ∧ h_ = [] | 21 => v_ = (.pointer (some ⟨qm, 1, none⟩)) ∧ h_ = [] | 22 => v_ = v2 ∧ h_ = [] | 23 => v_ = (.int .i64 ((nw.length : Nat) : Int)) ∧ h_ = [] | 24 => v_ = (.bool (decide (((la.length : Nat) : Int) ≠ ((nw.length : Nat) : Int)))) ∧ h_ = [] | 25 => v_ = (.bool (decide (((la.length : Nat) : Int) ≠ ((nw.length : Nat) : Int)))) ∧ h_ = [] | 26 => v_ = (.bool (decide (((la.length : Nat) : Int) ≠ ((nw.length : Nat) : Int)))) ∧ h_ = [] | 27 => v_ = (.pointer (some ⟨db, 0, none⟩)) ∧ h_ = [] | 28 => ∃ (v44 : Value) (s45 : List Hp), v_ = v44 ∧ h_ = s45 ∧ (Own 3 1 v44 (keysS lo).length ((keysS lo).map iV) s45) | 29 => v_ = (.pointer (some ⟨qm, 0, none⟩)) ∧ h_ = [] | 30 => v_ = (.pointer (some ⟨qm, 0, none⟩)) ∧ h_ = [] | 31 => v_ = (.pointer (some ⟨qm, 2, none⟩)) ∧ h_ = [] | 32 => v_ = v3 ∧ h_ = [] | 33 => v_ = (.bool (decide ((keysS lo) = ls))) ∧ h_ = [] | 34 => v_ = (.bool (decide (¬ ((keysS lo) = ls)))) ∧ h_ = [] | 35 => v_ = (.bool (decide (¬ ((keysS lo) = ls)))) ∧ h_ = [] | _ => True) mixed (by kernel_rfl) (flow_has (cs := []) hH rfl) ?_ ?_
        · intro i_ o_ ho_ r' w' G hs_ ht
          match i_, ho_ with
          | 0, ho_ =>
            obtain rfl := Option.some.inj ho_
            have e0 : r' 0 = (.pointer (some ⟨db, 0, none⟩)) := ht.was 0 (by kernel_rfl)
            have hG := ht.has.drop
            refine GOK.free rfl ?_
            refine o_move (v := (.pointer (some ⟨db, 0, none⟩))) e0 ?_
            exact ⟨_, ⟨rfl, rfl⟩, hG⟩
          | 1, ho_ =>
            obtain rfl := Option.some.inj ho_
            obtain ⟨e10, eh0⟩ := (ht.done 0 _ rfl rfl).1
            have hG := ht.has.drop
            refine GOK.free rfl ?_
            refine o_callf (vs := #[(.pointer (some ⟨db, 0, none⟩))]) ca62 rfl (args1 e10) (don_r (p := p) (la := la) (lo := lo) hG.all hd hnd31 (in_sub (ht.fr sg (by simp)) (ht.fr [Hp.one pb (.cells #[(.bool p.off), (.bool p.armed), (.int .i64 p.left), (.int .i64 p.uses)] 101 (0, 0))] (by simp))) ) ?_
            rintro _ w34 ⟨rfl, hX32⟩
            refine ⟨_, rfl, ?_⟩
            have hH33 := hX32.of_all
            exact ⟨_, ⟨rfl, rfl⟩, hH33⟩
          | 2, ho_ =>
            obtain rfl := Option.some.inj ho_
            have e2 : r' 2 = (.pointer (some ⟨qb, 0, none⟩)) := ht.was 2 (by kernel_rfl)
            have hG := ht.has.drop
            refine GOK.free rfl ?_
            refine o_move (v := (.pointer (some ⟨qb, 0, none⟩))) e2 ?_
            exact ⟨_, ⟨rfl, rfl⟩, hG⟩
          | 3, ho_ =>
            obtain rfl := Option.some.inj ho_
            obtain ⟨e12, eh2⟩ := (ht.done 2 _ rfl rfl).1
            have hG := ht.has.drop
            refine GOK.free rfl ?_
            refine o_nilCheck e12 ?_
            exact ⟨_, ⟨rfl, rfl⟩, hG⟩
          | 4, ho_ =>
            obtain rfl := Option.some.inj ho_
            obtain ⟨e13, eh3⟩ := (ht.done 3 _ rfl rfl).1
            have hG := ht.has.drop
            refine GOK.free rfl ?_
            refine o_fieldAddr (k := 0) (fun _ => by kernel_rfl) e13 ?_
            exact ⟨_, ⟨rfl, rfl⟩, hG⟩
          | 5, ho_ =>
            obtain rfl := Option.some.inj ho_
            obtain ⟨e14, eh4⟩ := (ht.done 4 _ rfl rfl).1
            have hG := ht.has.drop
            refine GOK.free rfl ?_
            refine o_load1 (v := (.bool q.off)) Try.underlying4 rfl e14 hG (ht.fr [Hp.one qb (.cells #[(.bool q.off), (.bool q.armed), (.int .i64 q.left), (.int .i64 q.uses)] 112 (0, 0))] (by simp)) (CellsAt.one rfl) ?_
            exact ⟨_, ⟨rfl, rfl⟩, hG⟩
          | 6, ho_ =>
            obtain rfl := Option.some.inj ho_
            obtain ⟨e11, eh1⟩ := (ht.done 1 _ rfl rfl).1
            obtain ⟨e15, eh5⟩ := (ht.done 5 _ rfl rfl).1
            have hG := ht.has.drop
            refine GOK.free rfl ?_
            refine o_eqlb Try.underlying4 e11 e15 ?_
            exact ⟨_, ⟨rfl, rfl⟩, hG⟩
          | 7, ho_ =>
            obtain rfl := Option.some.inj ho_
            obtain ⟨e16, eh6⟩ := (ht.done 6 _ rfl rfl).1
            have hG := ht.has.drop
            refine GOK.free rfl ?_
            refine o_move (v := (.bool ((!p.off) == q.off))) e16 ?_
            exact ⟨_, ⟨rfl, rfl⟩, hG⟩
          | 8, ho_ =>
            obtain rfl := Option.some.inj ho_
            obtain ⟨e17, eh7⟩ := (ht.done 7 _ rfl rfl).1
            have e0 : r' 0 = (.pointer (some ⟨db, 0, none⟩)) := ht.was 0 (by kernel_rfl)
            have hG := ht.has.drop
            refine GOK.on rfl rfl (Eq.trans e17 (congrArg Value.bool h8)) ?_
            refine o_move (v := (.pointer (some ⟨db, 0, none⟩))) e0 ?_
            exact ⟨_, ⟨rfl, rfl⟩, hG⟩
          | 9, ho_ =>
            obtain rfl := Option.some.inj ho_
            obtain ⟨e17, eh7⟩ := (ht.done 7 _ rfl rfl).1
            obtain ⟨e18, eh8⟩ := (ht.done 8 _ rfl rfl).1
            have hG := ht.has.drop
            refine GOK.on rfl rfl (Eq.trans e17 (congrArg Value.bool h8)) ?_
            refine o_callf (vs := #[(.pointer (some ⟨db, 0, none⟩))]) ca63 rfl (args1 e18) (duses_r (p := p) (la := la) (lo := lo) hG.all hd hnd35 (in_sub (ht.fr sg (by simp)) (ht.fr [Hp.one pb (.cells #[(.bool p.off), (.bool p.armed), (.int .i64 p.left), (.int .i64 p.uses)] 101 (0, 0))] (by simp))) ) ?_
            rintro _ w38 ⟨rfl, hX36⟩
            refine ⟨_, rfl, ?_⟩
            have hH37 := hX36.of_all
            exact ⟨_, ⟨rfl, rfl⟩, hH37⟩
          | 10, ho_ =>
            obtain rfl := Option.some.inj ho_
            obtain ⟨e17, eh7⟩ := (ht.done 7 _ rfl rfl).1
            have e2 : r' 2 = (.pointer (some ⟨qb, 0, none⟩)) := ht.was 2 (by kernel_rfl)
            have hG := ht.has.drop
            refine GOK.on rfl rfl (Eq.trans e17 (congrArg Value.bool h8)) ?_
            refine o_move (v := (.pointer (some ⟨qb, 0, none⟩))) e2 ?_
            exact ⟨_, ⟨rfl, rfl⟩, hG⟩
          | 11, ho_ =>
            obtain rfl := Option.some.inj ho_
            obtain ⟨e17, eh7⟩ := (ht.done 7 _ rfl rfl).1
            obtain ⟨e20, eh10⟩ := (ht.done 10 _ rfl rfl).1
            have hG := ht.has.drop
            refine GOK.on rfl rfl (Eq.trans e17 (congrArg Value.bool h8)) ?_
            refine o_nilCheck e20 ?_
            exact ⟨_, ⟨rfl, rfl⟩, hG⟩
          | 12, ho_ =>
            obtain rfl := Option.some.inj ho_
            obtain ⟨e17, eh7⟩ := (ht.done 7 _ rfl rfl).1
            obtain ⟨e21, eh11⟩ := (ht.done 11 _ rfl rfl).1
            have hG := ht.has.drop
            refine GOK.on rfl rfl (Eq.trans e17 (congrArg Value.bool h8)) ?_
            refine o_fieldAddr (k := 3) (fun _ => by kernel_rfl) e21 ?_
            exact ⟨_, ⟨rfl, rfl⟩, hG⟩
          | 13, ho_ =>
            obtain rfl := Option.some.inj ho_
            obtain ⟨e17, eh7⟩ := (ht.done 7 _ rfl rfl).1
            obtain ⟨e22, eh12⟩ := (ht.done 12 _ rfl rfl).1
            have hG := ht.has.drop
            refine GOK.on rfl rfl (Eq.trans e17 (congrArg Value.bool h8)) ?_
            refine o_load1 (v := (.int .i64 q.uses)) Try.underlying3 rfl e22 hG (ht.fr [Hp.one qb (.cells #[(.bool q.off), (.bool q.armed), (.int .i64 q.left), (.int .i64 q.uses)] 112 (0, 0))] (by simp)) (CellsAt.one rfl) ?_
            exact ⟨_, ⟨rfl, rfl⟩, hG⟩
          | 14, ho_ =>
            obtain rfl := Option.some.inj ho_
            obtain ⟨e17, eh7⟩ := (ht.done 7 _ rfl rfl).1
            obtain ⟨e19, eh9⟩ := (ht.done 9 _ rfl rfl).1
            obtain ⟨e23, eh13⟩ := (ht.done 13 _ rfl rfl).1
            have hG := ht.has.drop
            refine GOK.on rfl rfl (Eq.trans e17 (congrArg Value.bool h8)) ?_
            refine o_neq (a := p.uses) (b := q.uses) e19 e23 ?_
            exact ⟨_, ⟨rfl, rfl⟩, hG⟩
          | 15, ho_ =>
            obtain rfl := Option.some.inj ho_
            obtain ⟨e17, eh7⟩ := (ht.done 7 _ rfl rfl).1
            obtain ⟨e24, eh14⟩ := (ht.done 14 _ rfl rfl).1
            have hG := ht.has.drop
            refine GOK.free rfl ?_
            refine o_pick_f (u := (.bool (decide (p.uses ≠ q.uses)))) ((e17 : _ = _).trans (congrArg Value.bool h8)) e24 ?_
            exact ⟨_, ⟨rfl, rfl⟩, hG⟩
          | 16, ho_ =>
            obtain rfl := Option.some.inj ho_
            obtain ⟨e25, eh15⟩ := (ht.done 15 _ rfl rfl).1
            have hG := ht.has.drop
            refine GOK.free rfl ?_
            refine o_move (v := (.bool (decide (p.uses ≠ q.uses)))) e25 ?_
            exact ⟨_, ⟨rfl, rfl⟩, hG⟩
          | 17, ho_ =>
            obtain rfl := Option.some.inj ho_
            obtain ⟨e26, eh16⟩ := (ht.done 16 _ rfl rfl).1
            have e0 : r' 0 = (.pointer (some ⟨db, 0, none⟩)) := ht.was 0 (by kernel_rfl)
            have hG := ht.has.drop
            refine GOK.on rfl rfl (Eq.trans e26 (congrArg Value.bool (decide_eq_false h17))) ?_
            refine o_move (v := (.pointer (some ⟨db, 0, none⟩))) e0 ?_
            exact ⟨_, ⟨rfl, rfl⟩, hG⟩
          | 18, ho_ =>
            obtain rfl := Option.some.inj ho_
            obtain ⟨e26, eh16⟩ := (ht.done 16 _ rfl rfl).1
            obtain ⟨e27, eh17⟩ := (ht.done 17 _ rfl rfl).1
            have hG := ht.has.drop
            refine GOK.on rfl rfl (Eq.trans e26 (congrArg Value.bool (decide_eq_false h17))) ?_
            refine o_callf (vs := #[(.pointer (some ⟨db, 0, none⟩))]) ca61 rfl (args1 e27) (sectors_r (p := p) (la := la) (lo := lo) hG.all hd hnd39 (in_sub (ht.fr sg (by simp)) (ht.fr [Hp.one pb (.cells #[(.bool p.off), (.bool p.armed), (.int .i64 p.left), (.int .i64 p.uses)] 101 (0, 0))] (by simp))) ) ?_
            rintro _ w42 ⟨rfl, hX40⟩
            refine ⟨_, rfl, ?_⟩
            have hH41 := hX40.of_all
            exact ⟨_, ⟨rfl, rfl⟩, hH41⟩
          | 19, ho_ =>
            obtain rfl := Option.some.inj ho_
            obtain ⟨e26, eh16⟩ := (ht.done 16 _ rfl rfl).1
            have e1 : r' 1 = (.pointer (some ⟨qm, 0, none⟩)) := ht.was 1 (by kernel_rfl)
            have hG := ht.has.drop
            refine GOK.on rfl rfl (Eq.trans e26 (congrArg Value.bool (decide_eq_false h17))) ?_
            refine o_move (v := (.pointer (some ⟨qm, 0, none⟩))) e1 ?_
            exact ⟨_, ⟨rfl, rfl⟩, hG⟩
          | 20, ho_ =>
            obtain rfl := Option.some.inj ho_
            obtain ⟨e26, eh16⟩ := (ht.done 16 _ rfl rfl).1
            obtain ⟨e29, eh19⟩ := (ht.done 19 _ rfl rfl).1
            have hG := ht.has.drop
            refine GOK.on rfl rfl (Eq.trans e26 (congrArg Value.bool (decide_eq_false h17))) ?_
            refine o_nilCheck e29 ?_
            exact ⟨_, ⟨rfl, rfl⟩, hG⟩
          | 21, ho_ =>
            obtain rfl := Option.some.inj ho_
            obtain ⟨e26, eh16⟩ := (ht.done 16 _ rfl rfl).1
            obtain ⟨e30, eh20⟩ := (ht.done 20 _ rfl rfl).1
            have hG := ht.has.drop
            refine GOK.on rfl rfl (Eq.trans e26 (congrArg Value.bool (decide_eq_false h17))) ?_
            refine o_fieldAddr (k := 1) (fun _ => by kernel_rfl) e30 ?_
            exact ⟨_, ⟨rfl, rfl⟩, hG⟩
          | 22, ho_ =>
            obtain rfl := Option.some.inj ho_
            obtain ⟨e26, eh16⟩ := (ht.done 16 _ rfl rfl).1
            obtain ⟨e31, eh21⟩ := (ht.done 21 _ rfl rfl).1
            have hG := ht.has.drop
            refine GOK.on rfl rfl (Eq.trans e26 (congrArg Value.bool (decide_eq_false h17))) ?_
            refine o_load1 (v := v2) Try.underlying53 rfl e31 hG (ht.fr [Hp.one qm (.cells #[v1, v2, v3] 189 (0, 0))] (by simp)) (CellsAt.one rfl) ?_
            exact ⟨_, ⟨rfl, rfl⟩, hG⟩
          | 23, ho_ =>
            obtain rfl := Option.some.inj ho_
            obtain ⟨e26, eh16⟩ := (ht.done 16 _ rfl rfl).1
            obtain ⟨e32, eh22⟩ := (ht.done 22 _ rfl rfl).1
            have hG := ht.has.drop
            refine GOK.on rfl rfl (Eq.trans e26 (congrArg Value.bool (decide_eq_false h17))) ?_
            refine o_lenS Try.underlying53 e32 ho2.sl ?_
            exact ⟨_, ⟨rfl, rfl⟩, hG⟩
          | 24, ho_ =>
            obtain rfl := Option.some.inj ho_
            obtain ⟨e26, eh16⟩ := (ht.done 16 _ rfl rfl).1
            obtain ⟨e28, eh18⟩ := (ht.done 18 _ rfl rfl).1
            obtain ⟨e33, eh23⟩ := (ht.done 23 _ rfl rfl).1
            have hG := ht.has.drop
            refine GOK.on rfl rfl (Eq.trans e26 (congrArg Value.bool (decide_eq_false h17))) ?_
            refine o_neq (a := ((la.length : Nat) : Int)) (b := ((nw.length : Nat) : Int)) e28 e33 ?_
            exact ⟨_, ⟨rfl, rfl⟩, hG⟩
          | 25, ho_ =>
            obtain rfl := Option.some.inj ho_
            obtain ⟨e26, eh16⟩ := (ht.done 16 _ rfl rfl).1
            obtain ⟨e34, eh24⟩ := (ht.done 24 _ rfl rfl).1
            have hG := ht.has.drop
            refine GOK.free rfl ?_
            refine o_pick_f (u := (.bool (decide (((la.length : Nat) : Int) ≠ ((nw.length : Nat) : Int))))) ((e26 : _ = _).trans (congrArg Value.bool (decide_eq_false h17))) e34 ?_
            exact ⟨_, ⟨rfl, rfl⟩, hG⟩
          | 26, ho_ =>
            obtain rfl := Option.some.inj ho_
            obtain ⟨e35, eh25⟩ := (ht.done 25 _ rfl rfl).1
            have hG := ht.has.drop
            refine GOK.free rfl ?_
            refine o_move (v := (.bool (decide (((la.length : Nat) : Int) ≠ ((nw.length : Nat) : Int))))) e35 ?_
            exact ⟨_, ⟨rfl, rfl⟩, hG⟩
          | 27, ho_ =>
            obtain rfl := Option.some.inj ho_
            obtain ⟨e36, eh26⟩ := (ht.done 26 _ rfl rfl).1
            have e0 : r' 0 = (.pointer (some ⟨db, 0, none⟩)) := ht.was 0 (by kernel_rfl)
            have hG := ht.has.drop
            refine GOK.on rfl rfl (Eq.trans e36 (congrArg Value.bool (decide_eq_false h30))) ?_
            refine o_move (v := (.pointer (some ⟨db, 0, none⟩))) e0 ?_
            exact ⟨_, ⟨rfl, rfl⟩, hG⟩
          | 28, ho_ =>
            obtain rfl := Option.some.inj ho_
            obtain ⟨e36, eh26⟩ := (ht.done 26 _ rfl rfl).1
            obtain ⟨e37, eh27⟩ := (ht.done 27 _ rfl rfl).1
            have hG := ht.has.drop
            refine GOK.on rfl rfl (Eq.trans e36 (congrArg Value.bool (decide_eq_false h30))) ?_
            refine o_callf (vs := #[(.pointer (some ⟨db, 0, none⟩))]) ca35 rfl (args1 e37) (loose_r (p := p) (la := la) (lo := lo) hG.all hd hnd43 (in_sub (ht.fr sg (by simp)) (ht.fr [Hp.one pb (.cells #[(.bool p.off), (.bool p.armed), (.int .i64 p.left), (.int .i64 p.uses)] 101 (0, 0))] (by simp))) hsim.ok hla) ?_
            rintro _ w49 ⟨v44, s45, ⟨rfl, ho46⟩, hX47⟩
            refine ⟨_, rfl, ?_⟩
            have hH48 := hX47.of_all1
            exact ⟨_, ⟨v44, s45, rfl, rfl, ho46⟩, hH48⟩
          | 29, ho_ =>
            obtain rfl := Option.some.inj ho_
            obtain ⟨e36, eh26⟩ := (ht.done 26 _ rfl rfl).1
            have e1 : r' 1 = (.pointer (some ⟨qm, 0, none⟩)) := ht.was 1 (by kernel_rfl)
            have hG := ht.has.drop
            refine GOK.on rfl rfl (Eq.trans e36 (congrArg Value.bool (decide_eq_false h30))) ?_
            refine o_move (v := (.pointer (some ⟨qm, 0, none⟩))) e1 ?_
            exact ⟨_, ⟨rfl, rfl⟩, hG⟩
          | 30, ho_ =>
            obtain rfl := Option.some.inj ho_
            obtain ⟨e36, eh26⟩ := (ht.done 26 _ rfl rfl).1
            obtain ⟨e39, eh29⟩ := (ht.done 29 _ rfl rfl).1
            have hG := ht.has.drop
            refine GOK.on rfl rfl (Eq.trans e36 (congrArg Value.bool (decide_eq_false h30))) ?_
            refine o_nilCheck e39 ?_
            exact ⟨_, ⟨rfl, rfl⟩, hG⟩
          | 31, ho_ =>
            obtain rfl := Option.some.inj ho_
            obtain ⟨e36, eh26⟩ := (ht.done 26 _ rfl rfl).1
            obtain ⟨e40, eh30⟩ := (ht.done 30 _ rfl rfl).1
            have hG := ht.has.drop
            refine GOK.on rfl rfl (Eq.trans e36 (congrArg Value.bool (decide_eq_false h30))) ?_
            refine o_fieldAddr (k := 2) (fun _ => by kernel_rfl) e40 ?_
            exact ⟨_, ⟨rfl, rfl⟩, hG⟩
          | 32, ho_ =>
            obtain rfl := Option.some.inj ho_
            obtain ⟨e36, eh26⟩ := (ht.done 26 _ rfl rfl).1
            obtain ⟨e41, eh31⟩ := (ht.done 31 _ rfl rfl).1
            have hG := ht.has.drop
            refine GOK.on rfl rfl (Eq.trans e36 (congrArg Value.bool (decide_eq_false h30))) ?_
            refine o_load1 (v := v3) Try.underlying54 rfl e41 hG (ht.fr [Hp.one qm (.cells #[v1, v2, v3] 189 (0, 0))] (by simp)) (CellsAt.one rfl) ?_
            exact ⟨_, ⟨rfl, rfl⟩, hG⟩
          | 33, ho_ =>
            obtain rfl := Option.some.inj ho_
            obtain ⟨e36, eh26⟩ := (ht.done 26 _ rfl rfl).1
            obtain ⟨v44, s45, e38, eh28, ho46⟩ := (ht.done 28 _ rfl rfl).1
            obtain ⟨e42, eh32⟩ := (ht.done 32 _ rfl rfl).1
            have hG := ht.has.drop
            refine GOK.on rfl rfl (Eq.trans e36 (congrArg Value.bool (decide_eq_false h30))) ?_
            refine o_callf (vs := #[v44, v3]) ca49 rfl (args2 e38 e42) (same_c hG.all (a := (keysS lo)) (b := ls) (ho46.sl.mono (eh28 ▸ (ht.done 28 _ rfl rfl).2)) (ho3.sl.mono (ht.fr h3 (by simp)))) ?_
            rintro _ w52 ⟨rfl, hX50⟩
            refine ⟨_, rfl, ?_⟩
            have hH51 := hX50.of_all
            exact ⟨_, ⟨rfl, rfl⟩, hH51⟩
          | 34, ho_ =>
            obtain rfl := Option.some.inj ho_
            obtain ⟨e36, eh26⟩ := (ht.done 26 _ rfl rfl).1
            obtain ⟨v44, s45, e38, eh28, ho46⟩ := (ht.done 28 _ rfl rfl).1
            obtain ⟨e43, eh33⟩ := (ht.done 33 _ rfl rfl).1
            have hG := ht.has.drop
            refine GOK.on rfl rfl (Eq.trans e36 (congrArg Value.bool (decide_eq_false h30))) ?_
            refine o_not2 (b := decide ((keysS lo) = ls)) (b' := decide (¬ ((keysS lo) = ls))) e43 not_dec ?_
            exact ⟨_, ⟨rfl, rfl⟩, hG⟩
          | 35, ho_ =>
            obtain rfl := Option.some.inj ho_
            obtain ⟨e36, eh26⟩ := (ht.done 26 _ rfl rfl).1
            obtain ⟨v44, s45, e38, eh28, ho46⟩ := (ht.done 28 _ rfl rfl).1
            obtain ⟨e44, eh34⟩ := (ht.done 34 _ rfl rfl).1
            have hG := ht.has.drop
            refine GOK.free rfl ?_
            refine o_pick_f (u := (.bool (decide (¬ ((keysS lo) = ls))))) ((e36 : _ = _).trans (congrArg Value.bool (decide_eq_false h30))) e44 ?_
            exact ⟨_, ⟨rfl, rfl⟩, hG⟩
          | i_ + 36, ho_ => exact absurd ho_ (by simp)
        · intro vs53 hs54 w55 hT56 hH57
          obtain ⟨e0_, eh0_⟩ := hT56 0 _ rfl
          obtain ⟨e1_, eh1_⟩ := hT56 1 _ rfl
          obtain ⟨e2_, eh2_⟩ := hT56 2 _ rfl
          obtain ⟨e3_, eh3_⟩ := hT56 3 _ rfl
          obtain ⟨e4_, eh4_⟩ := hT56 4 _ rfl
          obtain ⟨e5_, eh5_⟩ := hT56 5 _ rfl
          obtain ⟨e6_, eh6_⟩ := hT56 6 _ rfl
          obtain ⟨e7_, eh7_⟩ := hT56 7 _ rfl
          obtain ⟨e8_, eh8_⟩ := hT56 8 _ rfl
          obtain ⟨e9_, eh9_⟩ := hT56 9 _ rfl
          obtain ⟨e10_, eh10_⟩ := hT56 10 _ rfl
          obtain ⟨e11_, eh11_⟩ := hT56 11 _ rfl
          obtain ⟨e12_, eh12_⟩ := hT56 12 _ rfl
          obtain ⟨e13_, eh13_⟩ := hT56 13 _ rfl
          obtain ⟨e14_, eh14_⟩ := hT56 14 _ rfl
          obtain ⟨e15_, eh15_⟩ := hT56 15 _ rfl
          obtain ⟨e16_, eh16_⟩ := hT56 16 _ rfl
          obtain ⟨e17_, eh17_⟩ := hT56 17 _ rfl
          obtain ⟨e18_, eh18_⟩ := hT56 18 _ rfl
          obtain ⟨e19_, eh19_⟩ := hT56 19 _ rfl
          obtain ⟨e20_, eh20_⟩ := hT56 20 _ rfl
          obtain ⟨e21_, eh21_⟩ := hT56 21 _ rfl
          obtain ⟨e22_, eh22_⟩ := hT56 22 _ rfl
          obtain ⟨e23_, eh23_⟩ := hT56 23 _ rfl
          obtain ⟨e24_, eh24_⟩ := hT56 24 _ rfl
          obtain ⟨e25_, eh25_⟩ := hT56 25 _ rfl
          obtain ⟨e26_, eh26_⟩ := hT56 26 _ rfl
          obtain ⟨e27_, eh27_⟩ := hT56 27 _ rfl
          obtain ⟨v44, s45, e28_, eh28_, ho46⟩ := hT56 28 _ rfl
          obtain ⟨e29_, eh29_⟩ := hT56 29 _ rfl
          obtain ⟨e30_, eh30_⟩ := hT56 30 _ rfl
          obtain ⟨e31_, eh31_⟩ := hT56 31 _ rfl
          obtain ⟨e32_, eh32_⟩ := hT56 32 _ rfl
          obtain ⟨e33_, eh33_⟩ := hT56 33 _ rfl
          obtain ⟨e34_, eh34_⟩ := hT56 34 _ rfl
          obtain ⟨e35_, eh35_⟩ := hT56 35 _ rfl
          have hH58 : Has E w55 ([sg, [Hp.one pb (.cells #[(.bool p.off), (.bool p.armed), (.int .i64 p.left), (.int .i64 p.uses)] 101 (0, 0))], h1, h2, h3, [Hp.one qm (.cells #[v1, v2, v3] 189 (0, 0))], [Hp.one qb (.cells #[(.bool q.off), (.bool q.armed), (.int .i64 q.left), (.int .i64 q.uses)] 112 (0, 0))], R] ++ [s45]) := flow_back (cs := [s45]) hH57 (by show (hs54 0 ++ (hs54 1 ++ (hs54 2 ++ (hs54 3 ++ (hs54 4 ++ (hs54 5 ++ (hs54 6 ++ (hs54 7 ++ (hs54 8 ++ (hs54 9 ++ (hs54 10 ++ (hs54 11 ++ (hs54 12 ++ (hs54 13 ++ (hs54 14 ++ (hs54 15 ++ (hs54 16 ++ (hs54 17 ++ (hs54 18 ++ (hs54 19 ++ (hs54 20 ++ (hs54 21 ++ (hs54 22 ++ (hs54 23 ++ (hs54 24 ++ (hs54 25 ++ (hs54 26 ++ (hs54 27 ++ (hs54 28 ++ (hs54 29 ++ (hs54 30 ++ (hs54 31 ++ (hs54 32 ++ (hs54 33 ++ (hs54 34 ++ (hs54 35 ++ [])))))))))))))))))))))))))))))))))))) = _; rw [eh0_, eh1_, eh2_, eh3_, eh4_, eh5_, eh6_, eh7_, eh8_, eh9_, eh10_, eh11_, eh12_, eh13_, eh14_, eh15_, eh16_, eh17_, eh18_, eh19_, eh20_, eh21_, eh22_, eh23_, eh24_, eh25_, eh26_, eh27_, eh28_, eh29_, eh30_, eh31_, eh32_, eh33_, eh34_, eh35_]; rfl)
          generalize hr60 : puts vs53 _ 0 _ = r59
          have e61_0 : r59 0 = (.pointer (some ⟨db, 0, none⟩)) := by rw [← hr60]; exact rfl
          have e61_1 : r59 1 = (.pointer (some ⟨qm, 0, none⟩)) := by rw [← hr60]; exact rfl
          have e61_2 : r59 2 = (.pointer (some ⟨qb, 0, none⟩)) := by rw [← hr60]; exact rfl
          have e61_6 : r59 6 = (.bool false) := by rw [← hr60]; exact rfl
          have e61_45 : r59 45 = (.bool (decide (¬ ((keysS lo) = ls)))) := by rw [← hr60]; exact e35_
          refine t_norm (hK3 _ _ ?_)
          refine c_cond e61_45 (fun h62 => ?_) (fun h62 => ?_)
          · -- ¬ ((keysS lo) = ls)
            exact absurd hsim.ls.symm h62
          · -- not: ¬ ((keysS lo) = ls)
            refine wp_skip ?_
            refine t_norm (hK2 _ _ ?_)
            refine wp_seq_k fun K63 hK63 => ?_
            refine wp_seq_k fun K64 hK64 => ?_
            refine c_region ?_
            refine s_op (o_assign (v := (.int .i64 0)) rfl ?_)
            refine s_nil ?_
            refine t_norm (hK64 _ _ ?_)
            refine wp_block ?_
            let I66 : Nat → (Nat → Value) → World → Prop := fun n__ r__ w__ => ∃ (i : Nat), n__ = nw.length - i ∧ Has E w__ [sg, [Hp.one pb (.cells #[(.bool p.off), (.bool p.armed), (.int .i64 p.left), (.int .i64 p.uses)] 101 (0, 0))], h1, h2, h3, [Hp.one qm (.cells #[v1, v2, v3] 189 (0, 0))], [Hp.one qb (.cells #[(.bool q.off), (.bool q.armed), (.int .i64 q.left), (.int .i64 q.uses)] 112 (0, 0))], R, s45] ∧ (i ≤ nw.length) ∧ r__ 0 = (.pointer (some ⟨db, 0, none⟩)) ∧ r__ 1 = (.pointer (some ⟨qm, 0, none⟩)) ∧ r__ 2 = (.pointer (some ⟨qb, 0, none⟩)) ∧ r__ 7 = (.int .i64 (i : Int)) ∧ r__ 45 = (.bool (decide (¬ ((keysS lo) = ls))))
            refine c_loop I66 _ ⟨0, rfl, hH58, Nat.zero_le _, e61_0, e61_1, e61_2, rfl, e61_45⟩ ?_
            rintro n_ r69 w67 ⟨i, rfl, hH68, hi, e65_0, e65_1, e65_2, e65_7, e65_45⟩
            refine wp_seq_k fun K70 hK70 => ?_
            refine wp_seq_k fun K71 hK71 => ?_
            refine c_region ?_
            refine s_op (o_move (v := (.int .i64 (i : Int))) e65_7 ?_)
            refine s_op (o_move (v := (.pointer (some ⟨qm, 0, none⟩))) e65_1 ?_)
            refine s_op (o_nilCheck rfl ?_)
            refine s_op (o_fieldAddr (k := 1) (fun _ => by kernel_rfl) rfl ?_)
            refine s_op (o_load1 (v := v2) Try.underlying53 rfl rfl hH68 (seg_sub 5 rfl) (CellsAt.one rfl) ?_)
            refine s_op (o_lenS Try.underlying53 rfl ho2.sl ?_)
            refine s_op (o_lss (a := (i : Int)) (b := ((nw.length : Nat) : Int)) rfl rfl ?_)
            refine s_nil ?_
            refine t_norm (hK71 _ _ ?_)
            refine c_cond rfl (fun h72 => ?_) (fun h72 => ?_)
            · -- (i : Int) < ((nw.length : Nat) : Int)
              refine wp_skip ?_
              refine t_norm (hK70 _ _ ?_)
              refine wp_seq_k fun K73 hK73 => ?_
              refine wp_block ?_
              refine wp_seq_k fun K74 hK74 => ?_
              refine c_region ?_
              refine s_op (o_move (v := (.pointer (some ⟨db, 0, none⟩))) e65_0 ?_)
              refine s_op (o_move (v := (.int .i64 (i : Int))) e65_7 ?_)
              refine s_op (o_callf (vs := #[(.pointer (some ⟨db, 0, none⟩)), (.int .i64 (i : Int))]) ca33 rfl (args2 rfl rfl) (read_d (p := p) (la := la) (lo := lo) ((hH68.front 1 rfl).front 1 rfl).all2 hd (i : Int)) ?_)
              rintro _ w77 ⟨rfl, hX75⟩
              refine ⟨_, rfl, ?_⟩
              have hH76 : Has E w77 [sg, [Hp.one pb (.cells #[(.bool p.off), (.bool p.armed), (.int .i64 p.left), (.int .i64 p.uses)] 101 (0, 0))], h1, h2, h3, [Hp.one qm (.cells #[v1, v2, v3] 189 (0, 0))], [Hp.one qb (.cells #[(.bool q.off), (.bool q.armed), (.int .i64 q.left), (.int .i64 q.uses)] 112 (0, 0))], R, s45] := hX75.of_all2
              refine s_op (o_move (v := (.tuple #[(S (readS p la lo (i : Int))), (.int .i64 (readE p la (i : Int)))])) rfl ?_)
              refine s_op (o_extract (v := (S (readS p la lo (i : Int)))) rfl rfl ?_)
              refine s_op (o_extract (v := (.int .i64 (readE p la (i : Int)))) rfl rfl ?_)
              refine s_op (o_assign (v := (S (readS p la lo (i : Int)))) rfl ?_)
              refine s_op (o_assign (v := (.int .i64 (readE p la (i : Int)))) rfl ?_)
              refine s_nil ?_
              refine t_norm (hK74 _ _ ?_)
              refine wp_seq_k fun K78 hK78 => ?_
              rcases Bool.eq_false_or_eq_true q.off with h79 | h79
              · -- q.off
                by_cases h80 : (readS p la lo (i : Int)) ≠ ([] : List UInt8)
                · -- (readS p la lo (i : Int)) ≠ ([] : List UInt8)
                  exact absurd (hsim.read_off hpr h79).1 h80
                · -- not: (readS p la lo (i : Int)) ≠ ([] : List UInt8)
                  by_cases h81 : readE p la (i : Int) ≠ 6
                  · -- readE p la (i : Int) ≠ 6
                    exact absurd (hsim.read_off hpr h79).2 h81
                  · -- not: readE p la (i : Int) ≠ 6
                    have hnd82 : (sg ++ [Hp.one pb (.cells #[(.bool p.off), (.bool p.armed), (.int .i64 p.left), (.int .i64 p.uses)] 101 (0, 0))]).Nodup := dev_nodup hd ((hH76.front 1 rfl).front 1 rfl)
                    obtain ⟨x89, hx90⟩ : ∃ x_, la[((i : Int)).toNat]? = some x_ := get_some (by omega)
                    refine c_flow3 [sg, [Hp.one pb (.cells #[(.bool p.off), (.bool p.armed), (.int .i64 p.left), (.int .i64 p.uses)] 101 (0, 0))], h1, h2, h3, [Hp.one qm (.cells #[v1, v2, v3] 189 (0, 0))], [Hp.one qb (.cells #[(.bool q.off), (.bool q.armed), (.int .i64 q.left), (.int .i64 q.uses)] 112 (0, 0))], R, s45] (fun i_ => match i_ with | _ => []) (fun i_ v_ h_ m_ => match i_ with | 0 => v_ = (.pointer (some ⟨qb, 0, none⟩)) ∧ h_ = [] | 1 => v_ = (.pointer (some ⟨qb, 0, none⟩)) ∧ h_ = [] | 2 => v_ = (.pointer (some ⟨qb, 0, none⟩)) ∧ h_ = [] | 3 => v_ = (.bool q.off) ∧ h_ = [] | 4 => v_ = (.bool q.off) ∧ h_ = [] | 5 => v_ = (S (readS p la lo (i : Int))) ∧ h_ = [] | 6 => v_ = (.bool (decide ((readS p la lo (i : Int)) ≠ ([] : List UInt8)))) ∧ h_ = [] | 7 => v_ = (.bool (decide ((readS p la lo (i : Int)) ≠ ([] : List UInt8)))) ∧ h_ = [] | 8 => v_ = (.int .i64 (readE p la (i : Int))) ∧ h_ = [] | 9 => v_ = (.bool (decide (readE p la (i : Int) ≠ 6))) ∧ h_ = [] | 10 => v_ = (.bool (decide (readE p la (i : Int) ≠ 6))) ∧ h_ = [] | 11 => v_ = (.bool (decide (readE p la (i : Int) ≠ 6))) ∧ h_ = [] | 12 => v_ = (.bool (decide (readE p la (i : Int) ≠ 6))) ∧ h_ = [] | 13 => v_ = (.pointer (some ⟨qb, 0, none⟩)) ∧ h_ = [] | 14 => v_ = (.pointer (some ⟨qb, 0, none⟩)) ∧ h_ = [] | 15 => v_ = (.pointer (some ⟨qb, 0, none⟩)) ∧ h_ = [] | 16 => v_ = (.bool q.off) ∧ h_ = [] | 17 => v_ = (.bool false) ∧ h_ = [] | 18 => v_ = (.bool false) ∧ h_ = [] | 19 => v_ = undef ∧ h_ = [] | 20 => v_ = undef ∧ h_ = [] | 21 => v_ = undef ∧ h_ = [] | 22 => v_ = undef ∧ h_ = [] | 23 => v_ = undef ∧ h_ = [] | 24 => v_ = undef ∧ h_ = [] | 25 => v_ = undef ∧ h_ = [] | 26 => v_ = undef ∧ h_ = [] | 27 => v_ = undef ∧ h_ = [] | 28 => v_ = undef ∧ h_ = [] | 29 => v_ = undef ∧ h_ = [] | 30 => v_ = undef ∧ h_ = [] | 31 => v_ = undef ∧ h_ = [] | 32 => v_ = (.bool false) ∧ h_ = [] | 33 => v_ = (.bool false) ∧ h_ = [] | 34 => v_ = (.bool false) ∧ h_ = [] | 35 => v_ = (.pointer (some ⟨db, 0, none⟩)) ∧ h_ = [] | 36 => v_ = (.int .i64 (i : Int)) ∧ h_ = [] | 37 => v_ = (S (lastsS la (i : Int))) ∧ h_ = [] | 38 => v_ = (.pointer (some ⟨qm, 0, none⟩)) ∧ h_ = [] | 39 => v_ = (.pointer (some ⟨qm, 0, none⟩)) ∧ h_ = [] | 40 => v_ = (.pointer (some ⟨qm, 0, none⟩)) ∧ h_ = [] | 41 => v_ = v1 ∧ h_ = [] | 42 => v_ = (.int .i64 (i : Int)) ∧ h_ = [] | 43 => ∃ (b86 : Nat) (o87 : Nat), v_ = (.pointer (some ⟨b86, o87, none⟩)) ∧ h_ = [] ∧ (CellsAt h1 b86 o87 [(S x89)]) | 44 => v_ = (S x89) ∧ h_ = [] | 45 => v_ = (.bool (decide ((lastsS la (i : Int)) ≠ x89))) ∧ h_ = [] | 46 => v_ = (.bool (decide ((lastsS la (i : Int)) ≠ x89))) ∧ h_ = [] | _ => True) mixed (by kernel_rfl) (flow_has (cs := []) hH76 rfl) ?_ ?_
                    · intro i_ o_ ho_ r' w' G hs_ ht
                      match i_, ho_ with
                      | 0, ho_ =>
                        obtain rfl := Option.some.inj ho_
                        have e2 : r' 2 = (.pointer (some ⟨qb, 0, none⟩)) := (ht.was 2 (by kernel_rfl)).trans e65_2
                        have hG := ht.has.drop
                        refine GOK.free rfl ?_
                        refine o_move (v := (.pointer (some ⟨qb, 0, none⟩))) e2 ?_
                        exact ⟨_, ⟨rfl, rfl⟩, hG⟩
                      | 1, ho_ =>
                        obtain rfl := Option.some.inj ho_
                        obtain ⟨e61, eh0⟩ := (ht.done 0 _ rfl rfl).1
                        have hG := ht.has.drop
                        refine GOK.free rfl ?_
                        refine o_nilCheck e61 ?_
                        exact ⟨_, ⟨rfl, rfl⟩, hG⟩
                      | 2, ho_ =>
                        obtain rfl := Option.some.inj ho_
                        obtain ⟨e62, eh1⟩ := (ht.done 1 _ rfl rfl).1
                        have hG := ht.has.drop
                        refine GOK.free rfl ?_
                        refine o_fieldAddr (k := 0) (fun _ => by kernel_rfl) e62 ?_
                        exact ⟨_, ⟨rfl, rfl⟩, hG⟩
                      | 3, ho_ =>
                        obtain rfl := Option.some.inj ho_
                        obtain ⟨e63, eh2⟩ := (ht.done 2 _ rfl rfl).1
                        have hG := ht.has.drop
                        refine GOK.free rfl ?_
                        refine o_load1 (v := (.bool q.off)) Try.underlying4 rfl e63 hG (ht.fr [Hp.one qb (.cells #[(.bool q.off), (.bool q.armed), (.int .i64 q.left), (.int .i64 q.uses)] 112 (0, 0))] (by simp)) (CellsAt.one rfl) ?_
                        exact ⟨_, ⟨rfl, rfl⟩, hG⟩
                      | 4, ho_ =>
                        obtain rfl := Option.some.inj ho_
                        obtain ⟨e64, eh3⟩ := (ht.done 3 _ rfl rfl).1
                        have hG := ht.has.drop
                        refine GOK.free rfl ?_
                        refine o_move (v := (.bool q.off)) e64 ?_
                        exact ⟨_, ⟨rfl, rfl⟩, hG⟩
                      | 5, ho_ =>
                        obtain rfl := Option.some.inj ho_
                        obtain ⟨e65, eh4⟩ := (ht.done 4 _ rfl rfl).1
                        have e8 : r' 8 = (S (readS p la lo (i : Int))) := ht.was 8 (by kernel_rfl)
                        have hG := ht.has.drop
                        refine GOK.on rfl rfl (Eq.trans e65 (congrArg Value.bool h79)) ?_
                        refine o_move (v := (S (readS p la lo (i : Int)))) e8 ?_
                        exact ⟨_, ⟨rfl, rfl⟩, hG⟩
                      | 6, ho_ =>
                        obtain rfl := Option.some.inj ho_
                        obtain ⟨e65, eh4⟩ := (ht.done 4 _ rfl rfl).1
                        obtain ⟨e66, eh5⟩ := (ht.done 5 _ rfl rfl).1
                        have hG := ht.has.drop
                        refine GOK.on rfl rfl (Eq.trans e65 (congrArg Value.bool h79)) ?_
                        refine o_sneq (a := (readS p la lo (i : Int))) (b := ([] : List UInt8)) e66 rfl ?_
                        exact ⟨_, ⟨rfl, rfl⟩, hG⟩
                      | 7, ho_ =>
                        obtain rfl := Option.some.inj ho_
                        obtain ⟨e65, eh4⟩ := (ht.done 4 _ rfl rfl).1
                        obtain ⟨e67, eh6⟩ := (ht.done 6 _ rfl rfl).1
                        have hG := ht.has.drop
                        refine GOK.on rfl rfl (Eq.trans e65 (congrArg Value.bool h79)) ?_
                        refine o_move (v := (.bool (decide ((readS p la lo (i : Int)) ≠ ([] : List UInt8))))) e67 ?_
                        exact ⟨_, ⟨rfl, rfl⟩, hG⟩
                      | 8, ho_ =>
                        obtain rfl := Option.some.inj ho_
                        obtain ⟨e68, eh7⟩ := (ht.done 7 _ rfl rfl).1
                        have e9 : r' 9 = (.int .i64 (readE p la (i : Int))) := ht.was 9 (by kernel_rfl)
                        have hG := ht.has.drop
                        refine GOK.on rfl rfl (Eq.trans e68 (congrArg Value.bool (decide_eq_false h80))) ?_
                        refine o_move (v := (.int .i64 (readE p la (i : Int)))) e9 ?_
                        exact ⟨_, ⟨rfl, rfl⟩, hG⟩
                      | 9, ho_ =>
                        obtain rfl := Option.some.inj ho_
                        obtain ⟨e68, eh7⟩ := (ht.done 7 _ rfl rfl).1
                        obtain ⟨e69, eh8⟩ := (ht.done 8 _ rfl rfl).1
                        have hG := ht.has.drop
                        refine GOK.on rfl rfl (Eq.trans e68 (congrArg Value.bool (decide_eq_false h80))) ?_
                        refine o_neq (a := readE p la (i : Int)) (b := 6) e69 rfl ?_
                        exact ⟨_, ⟨rfl, rfl⟩, hG⟩
                      | 10, ho_ =>
                        obtain rfl := Option.some.inj ho_
                        obtain ⟨e65, eh4⟩ := (ht.done 4 _ rfl rfl).1
                        obtain ⟨e68, eh7⟩ := (ht.done 7 _ rfl rfl).1
                        obtain ⟨e70, eh9⟩ := (ht.done 9 _ rfl rfl).1
                        have hG := ht.has.drop
                        refine GOK.on rfl rfl (Eq.trans e65 (congrArg Value.bool h79)) ?_
                        refine o_pick_f (u := (.bool (decide (readE p la (i : Int) ≠ 6)))) ((e68 : _ = _).trans (congrArg Value.bool (decide_eq_false h80))) e70 ?_
                        exact ⟨_, ⟨rfl, rfl⟩, hG⟩
                      | 11, ho_ =>
                        obtain rfl := Option.some.inj ho_
                        obtain ⟨e65, eh4⟩ := (ht.done 4 _ rfl rfl).1
                        obtain ⟨e71, eh10⟩ := (ht.done 10 _ rfl rfl).1
                        have hG := ht.has.drop
                        refine GOK.free rfl ?_
                        refine o_pick_t (u := (.bool (decide (readE p la (i : Int) ≠ 6)))) ((e65 : _ = _).trans (congrArg Value.bool h79)) e71 ?_
                        exact ⟨_, ⟨rfl, rfl⟩, hG⟩
                      | 12, ho_ =>
                        obtain rfl := Option.some.inj ho_
                        obtain ⟨e72, eh11⟩ := (ht.done 11 _ rfl rfl).1
                        have hG := ht.has.drop
                        refine GOK.free rfl ?_
                        refine o_move (v := (.bool (decide (readE p la (i : Int) ≠ 6)))) e72 ?_
                        exact ⟨_, ⟨rfl, rfl⟩, hG⟩
                      | 13, ho_ =>
                        obtain rfl := Option.some.inj ho_
                        obtain ⟨e73, eh12⟩ := (ht.done 12 _ rfl rfl).1
                        have e2 : r' 2 = (.pointer (some ⟨qb, 0, none⟩)) := (ht.was 2 (by kernel_rfl)).trans e65_2
                        have hG := ht.has.drop
                        refine GOK.on rfl rfl (Eq.trans e73 (congrArg Value.bool (decide_eq_false h81))) ?_
                        refine o_move (v := (.pointer (some ⟨qb, 0, none⟩))) e2 ?_
                        exact ⟨_, ⟨rfl, rfl⟩, hG⟩
                      | 14, ho_ =>
                        obtain rfl := Option.some.inj ho_
                        obtain ⟨e73, eh12⟩ := (ht.done 12 _ rfl rfl).1
                        obtain ⟨e74, eh13⟩ := (ht.done 13 _ rfl rfl).1
                        have hG := ht.has.drop
                        refine GOK.on rfl rfl (Eq.trans e73 (congrArg Value.bool (decide_eq_false h81))) ?_
                        refine o_nilCheck e74 ?_
                        exact ⟨_, ⟨rfl, rfl⟩, hG⟩
                      | 15, ho_ =>
                        obtain rfl := Option.some.inj ho_
                        obtain ⟨e73, eh12⟩ := (ht.done 12 _ rfl rfl).1
                        obtain ⟨e75, eh14⟩ := (ht.done 14 _ rfl rfl).1
                        have hG := ht.has.drop
                        refine GOK.on rfl rfl (Eq.trans e73 (congrArg Value.bool (decide_eq_false h81))) ?_
                        refine o_fieldAddr (k := 0) (fun _ => by kernel_rfl) e75 ?_
                        exact ⟨_, ⟨rfl, rfl⟩, hG⟩
                      | 16, ho_ =>
                        obtain rfl := Option.some.inj ho_
                        obtain ⟨e73, eh12⟩ := (ht.done 12 _ rfl rfl).1
                        obtain ⟨e76, eh15⟩ := (ht.done 15 _ rfl rfl).1
                        have hG := ht.has.drop
                        refine GOK.on rfl rfl (Eq.trans e73 (congrArg Value.bool (decide_eq_false h81))) ?_
                        refine o_load1 (v := (.bool q.off)) Try.underlying4 rfl e76 hG (ht.fr [Hp.one qb (.cells #[(.bool q.off), (.bool q.armed), (.int .i64 q.left), (.int .i64 q.uses)] 112 (0, 0))] (by simp)) (CellsAt.one rfl) ?_
                        exact ⟨_, ⟨rfl, rfl⟩, hG⟩
                      | 17, ho_ =>
                        obtain rfl := Option.some.inj ho_
                        obtain ⟨e73, eh12⟩ := (ht.done 12 _ rfl rfl).1
                        obtain ⟨e77, eh16⟩ := (ht.done 16 _ rfl rfl).1
                        have hG := ht.has.drop
                        refine GOK.on rfl rfl (Eq.trans e73 (congrArg Value.bool (decide_eq_false h81))) ?_
                        refine o_not (b := true) ((e77 : _ = _).trans (congrArg Value.bool h79)) ?_
                        exact ⟨_, ⟨rfl, rfl⟩, hG⟩
                      | 18, ho_ =>
                        obtain rfl := Option.some.inj ho_
                        obtain ⟨e73, eh12⟩ := (ht.done 12 _ rfl rfl).1
                        obtain ⟨e78, eh17⟩ := (ht.done 17 _ rfl rfl).1
                        have hG := ht.has.drop
                        refine GOK.on rfl rfl (Eq.trans e73 (congrArg Value.bool (decide_eq_false h81))) ?_
                        refine o_move (v := (.bool false)) e78 ?_
                        exact ⟨_, ⟨rfl, rfl⟩, hG⟩
                      | 19, ho_ =>
                        obtain rfl := Option.some.inj ho_
                        obtain ⟨e79, eh18⟩ := (ht.done 18 _ rfl rfl).1
                        have hG := ht.has.drop
                        refine GOK.off (b' := false) rfl rfl e79 rfl ?_
                        exact ⟨_, ⟨rfl, rfl⟩, ht.has⟩
                      | 20, ho_ =>
                        obtain rfl := Option.some.inj ho_
                        obtain ⟨e79, eh18⟩ := (ht.done 18 _ rfl rfl).1
                        have hG := ht.has.drop
                        refine GOK.off (b' := false) rfl rfl e79 rfl ?_
                        exact ⟨_, ⟨rfl, rfl⟩, ht.has⟩
                      | 21, ho_ =>
                        obtain rfl := Option.some.inj ho_
                        obtain ⟨e79, eh18⟩ := (ht.done 18 _ rfl rfl).1
                        have hG := ht.has.drop
                        refine GOK.off (b' := false) rfl rfl e79 rfl ?_
                        exact ⟨_, ⟨rfl, rfl⟩, ht.has⟩
                      | 22, ho_ =>
                        obtain rfl := Option.some.inj ho_
                        obtain ⟨e79, eh18⟩ := (ht.done 18 _ rfl rfl).1
                        have hG := ht.has.drop
                        refine GOK.off (b' := false) rfl rfl e79 rfl ?_
                        exact ⟨_, ⟨rfl, rfl⟩, ht.has⟩
                      | 23, ho_ =>
                        obtain rfl := Option.some.inj ho_
                        obtain ⟨e79, eh18⟩ := (ht.done 18 _ rfl rfl).1
                        have hG := ht.has.drop
                        refine GOK.off (b' := false) rfl rfl e79 rfl ?_
                        exact ⟨_, ⟨rfl, rfl⟩, ht.has⟩
                      | 24, ho_ =>
                        obtain rfl := Option.some.inj ho_
                        obtain ⟨e79, eh18⟩ := (ht.done 18 _ rfl rfl).1
                        have hG := ht.has.drop
                        refine GOK.off (b' := false) rfl rfl e79 rfl ?_
                        exact ⟨_, ⟨rfl, rfl⟩, ht.has⟩
                      | 25, ho_ =>
                        obtain rfl := Option.some.inj ho_
                        obtain ⟨e79, eh18⟩ := (ht.done 18 _ rfl rfl).1
                        have hG := ht.has.drop
                        refine GOK.off (b' := false) rfl rfl e79 rfl ?_
                        exact ⟨_, ⟨rfl, rfl⟩, ht.has⟩
                      | 26, ho_ =>
                        obtain rfl := Option.some.inj ho_
                        obtain ⟨e79, eh18⟩ := (ht.done 18 _ rfl rfl).1
                        have hG := ht.has.drop
                        refine GOK.off (b' := false) rfl rfl e79 rfl ?_
                        exact ⟨_, ⟨rfl, rfl⟩, ht.has⟩
                      | 27, ho_ =>
                        obtain rfl := Option.some.inj ho_
                        obtain ⟨e79, eh18⟩ := (ht.done 18 _ rfl rfl).1
                        have hG := ht.has.drop
                        refine GOK.off (b' := false) rfl rfl e79 rfl ?_
                        exact ⟨_, ⟨rfl, rfl⟩, ht.has⟩
                      | 28, ho_ =>
                        obtain rfl := Option.some.inj ho_
                        obtain ⟨e79, eh18⟩ := (ht.done 18 _ rfl rfl).1
                        have hG := ht.has.drop
                        refine GOK.off (b' := false) rfl rfl e79 rfl ?_
                        exact ⟨_, ⟨rfl, rfl⟩, ht.has⟩
                      | 29, ho_ =>
                        obtain rfl := Option.some.inj ho_
                        obtain ⟨e89, eh28⟩ := (ht.done 28 _ rfl rfl).1
                        have hG := ht.has.drop
                        refine GOK.offu rfl rfl e89 ?_
                        exact ⟨_, ⟨rfl, rfl⟩, ht.has⟩
                      | 30, ho_ =>
                        obtain rfl := Option.some.inj ho_
                        obtain ⟨e89, eh28⟩ := (ht.done 28 _ rfl rfl).1
                        have hG := ht.has.drop
                        refine GOK.offu rfl rfl e89 ?_
                        exact ⟨_, ⟨rfl, rfl⟩, ht.has⟩
                      | 31, ho_ =>
                        obtain rfl := Option.some.inj ho_
                        obtain ⟨e79, eh18⟩ := (ht.done 18 _ rfl rfl).1
                        have hG := ht.has.drop
                        refine GOK.off (b' := false) rfl rfl e79 rfl ?_
                        exact ⟨_, ⟨rfl, rfl⟩, ht.has⟩
                      | 32, ho_ =>
                        obtain rfl := Option.some.inj ho_
                        obtain ⟨e73, eh12⟩ := (ht.done 12 _ rfl rfl).1
                        obtain ⟨e79, eh18⟩ := (ht.done 18 _ rfl rfl).1
                        obtain ⟨e92, eh31⟩ := (ht.done 31 _ rfl rfl).1
                        have hG := ht.has.drop
                        refine GOK.on rfl rfl (Eq.trans e73 (congrArg Value.bool (decide_eq_false h81))) ?_
                        refine o_pick_f (u := (.bool false)) e79 rfl ?_
                        exact ⟨_, ⟨rfl, rfl⟩, hG⟩
                      | 33, ho_ =>
                        obtain rfl := Option.some.inj ho_
                        obtain ⟨e73, eh12⟩ := (ht.done 12 _ rfl rfl).1
                        obtain ⟨e93, eh32⟩ := (ht.done 32 _ rfl rfl).1
                        have hG := ht.has.drop
                        refine GOK.free rfl ?_
                        refine o_pick_f (u := (.bool false)) ((e73 : _ = _).trans (congrArg Value.bool (decide_eq_false h81))) e93 ?_
                        exact ⟨_, ⟨rfl, rfl⟩, hG⟩
                      | 34, ho_ =>
                        obtain rfl := Option.some.inj ho_
                        obtain ⟨e94, eh33⟩ := (ht.done 33 _ rfl rfl).1
                        have hG := ht.has.drop
                        refine GOK.free rfl ?_
                        refine o_move (v := (.bool false)) e94 ?_
                        exact ⟨_, ⟨rfl, rfl⟩, hG⟩
                      | 35, ho_ =>
                        obtain rfl := Option.some.inj ho_
                        obtain ⟨e95, eh34⟩ := (ht.done 34 _ rfl rfl).1
                        have e0 : r' 0 = (.pointer (some ⟨db, 0, none⟩)) := (ht.was 0 (by kernel_rfl)).trans e65_0
                        have hG := ht.has.drop
                        refine GOK.on rfl rfl e95 ?_
                        refine o_move (v := (.pointer (some ⟨db, 0, none⟩))) e0 ?_
                        exact ⟨_, ⟨rfl, rfl⟩, hG⟩
                      | 36, ho_ =>
                        obtain rfl := Option.some.inj ho_
                        obtain ⟨e95, eh34⟩ := (ht.done 34 _ rfl rfl).1
                        have e7 : r' 7 = (.int .i64 (i : Int)) := (ht.was 7 (by kernel_rfl)).trans e65_7
                        have hG := ht.has.drop
                        refine GOK.on rfl rfl e95 ?_
                        refine o_move (v := (.int .i64 (i : Int))) e7 ?_
                        exact ⟨_, ⟨rfl, rfl⟩, hG⟩
                      | 37, ho_ =>
                        obtain rfl := Option.some.inj ho_
                        obtain ⟨e95, eh34⟩ := (ht.done 34 _ rfl rfl).1
                        obtain ⟨e96, eh35⟩ := (ht.done 35 _ rfl rfl).1
                        obtain ⟨e97, eh36⟩ := (ht.done 36 _ rfl rfl).1
                        have hG := ht.has.drop
                        refine GOK.on rfl rfl e95 ?_
                        refine o_callf (vs := #[(.pointer (some ⟨db, 0, none⟩)), (.int .i64 (i : Int))]) ca51 rfl (args2 e96 e97) (lasts_r (p := p) (la := la) (lo := lo) hG.all hd hnd82 (in_sub (ht.fr sg (by simp)) (ht.fr [Hp.one pb (.cells #[(.bool p.off), (.bool p.armed), (.int .i64 p.left), (.int .i64 p.uses)] 101 (0, 0))] (by simp))) (i : Int)) ?_
                        rintro _ w85 ⟨rfl, hX83⟩
                        refine ⟨_, rfl, ?_⟩
                        have hH84 := hX83.of_all
                        exact ⟨_, ⟨rfl, rfl⟩, hH84⟩
                      | 38, ho_ =>
                        obtain rfl := Option.some.inj ho_
                        obtain ⟨e95, eh34⟩ := (ht.done 34 _ rfl rfl).1
                        have e1 : r' 1 = (.pointer (some ⟨qm, 0, none⟩)) := (ht.was 1 (by kernel_rfl)).trans e65_1
                        have hG := ht.has.drop
                        refine GOK.on rfl rfl e95 ?_
                        refine o_move (v := (.pointer (some ⟨qm, 0, none⟩))) e1 ?_
                        exact ⟨_, ⟨rfl, rfl⟩, hG⟩
                      | 39, ho_ =>
                        obtain rfl := Option.some.inj ho_
                        obtain ⟨e95, eh34⟩ := (ht.done 34 _ rfl rfl).1
                        obtain ⟨e99, eh38⟩ := (ht.done 38 _ rfl rfl).1
                        have hG := ht.has.drop
                        refine GOK.on rfl rfl e95 ?_
                        refine o_nilCheck e99 ?_
                        exact ⟨_, ⟨rfl, rfl⟩, hG⟩
                      | 40, ho_ =>
                        obtain rfl := Option.some.inj ho_
                        obtain ⟨e95, eh34⟩ := (ht.done 34 _ rfl rfl).1
                        obtain ⟨e100, eh39⟩ := (ht.done 39 _ rfl rfl).1
                        have hG := ht.has.drop
                        refine GOK.on rfl rfl e95 ?_
                        refine o_fieldAddr (k := 0) (fun _ => by kernel_rfl) e100 ?_
                        exact ⟨_, ⟨rfl, rfl⟩, hG⟩
                      | 41, ho_ =>
                        obtain rfl := Option.some.inj ho_
                        obtain ⟨e95, eh34⟩ := (ht.done 34 _ rfl rfl).1
                        obtain ⟨e101, eh40⟩ := (ht.done 40 _ rfl rfl).1
                        have hG := ht.has.drop
                        refine GOK.on rfl rfl e95 ?_
                        refine o_load1 (v := v1) Try.underlying53 rfl e101 hG (ht.fr [Hp.one qm (.cells #[v1, v2, v3] 189 (0, 0))] (by simp)) (CellsAt.one rfl) ?_
                        exact ⟨_, ⟨rfl, rfl⟩, hG⟩
                      | 42, ho_ =>
                        obtain rfl := Option.some.inj ho_
                        obtain ⟨e95, eh34⟩ := (ht.done 34 _ rfl rfl).1
                        have e7 : r' 7 = (.int .i64 (i : Int)) := (ht.was 7 (by kernel_rfl)).trans e65_7
                        have hG := ht.has.drop
                        refine GOK.on rfl rfl e95 ?_
                        refine o_move (v := (.int .i64 (i : Int))) e7 ?_
                        exact ⟨_, ⟨rfl, rfl⟩, hG⟩
                      | 43, ho_ =>
                        obtain rfl := Option.some.inj ho_
                        obtain ⟨e95, eh34⟩ := (ht.done 34 _ rfl rfl).1
                        obtain ⟨e102, eh41⟩ := (ht.done 41 _ rfl rfl).1
                        obtain ⟨e103, eh42⟩ := (ht.done 42 _ rfl rfl).1
                        have hG := ht.has.drop
                        refine GOK.on rfl rfl e95 ?_
                        refine o_index1 Try.underlying53 ti9 e102 ho1.sl e103 (by omega) hx90 fun b86 o87 hc88 => ?_
                        exact ⟨_, ⟨b86, o87, rfl, rfl, hc88⟩, hG⟩
                      | 44, ho_ =>
                        obtain rfl := Option.some.inj ho_
                        obtain ⟨e95, eh34⟩ := (ht.done 34 _ rfl rfl).1
                        obtain ⟨b86, o87, e104, eh43, hc88⟩ := (ht.done 43 _ rfl rfl).1
                        have hG := ht.has.drop
                        refine GOK.on rfl rfl e95 ?_
                        refine o_load1 (v := (S x89)) Try.underlying9 rfl e104 hG (ht.fr h1 (by simp)) hc88 ?_
                        exact ⟨_, ⟨rfl, rfl⟩, hG⟩
                      | 45, ho_ =>
                        obtain rfl := Option.some.inj ho_
                        obtain ⟨e95, eh34⟩ := (ht.done 34 _ rfl rfl).1
                        obtain ⟨e98, eh37⟩ := (ht.done 37 _ rfl rfl).1
                        obtain ⟨b86, o87, e104, eh43, hc88⟩ := (ht.done 43 _ rfl rfl).1
                        obtain ⟨e105, eh44⟩ := (ht.done 44 _ rfl rfl).1
                        have hG := ht.has.drop
                        refine GOK.on rfl rfl e95 ?_
                        refine o_sneq (a := (lastsS la (i : Int))) (b := x89) e98 e105 ?_
                        exact ⟨_, ⟨rfl, rfl⟩, hG⟩
                      | 46, ho_ =>
                        obtain rfl := Option.some.inj ho_
                        obtain ⟨e95, eh34⟩ := (ht.done 34 _ rfl rfl).1
                        obtain ⟨b86, o87, e104, eh43, hc88⟩ := (ht.done 43 _ rfl rfl).1
                        obtain ⟨e106, eh45⟩ := (ht.done 45 _ rfl rfl).1
                        have hG := ht.has.drop
                        refine GOK.free rfl ?_
                        refine o_pick_f (u := (.bool (decide ((lastsS la (i : Int)) ≠ x89)))) e95 e106 ?_
                        exact ⟨_, ⟨rfl, rfl⟩, hG⟩
                      | i_ + 47, ho_ => exact absurd ho_ (by simp)
                    · intro vs91 hs92 w93 hT94 hH95
                      obtain ⟨e0_, eh0_⟩ := hT94 0 _ rfl
                      obtain ⟨e1_, eh1_⟩ := hT94 1 _ rfl
                      obtain ⟨e2_, eh2_⟩ := hT94 2 _ rfl
                      obtain ⟨e3_, eh3_⟩ := hT94 3 _ rfl
                      obtain ⟨e4_, eh4_⟩ := hT94 4 _ rfl
                      obtain ⟨e5_, eh5_⟩ := hT94 5 _ rfl
                      obtain ⟨e6_, eh6_⟩ := hT94 6 _ rfl
                      obtain ⟨e7_, eh7_⟩ := hT94 7 _ rfl
                      obtain ⟨e8_, eh8_⟩ := hT94 8 _ rfl
                      obtain ⟨e9_, eh9_⟩ := hT94 9 _ rfl
                      obtain ⟨e10_, eh10_⟩ := hT94 10 _ rfl
                      obtain ⟨e11_, eh11_⟩ := hT94 11 _ rfl
                      obtain ⟨e12_, eh12_⟩ := hT94 12 _ rfl
                      obtain ⟨e13_, eh13_⟩ := hT94 13 _ rfl
                      obtain ⟨e14_, eh14_⟩ := hT94 14 _ rfl
                      obtain ⟨e15_, eh15_⟩ := hT94 15 _ rfl
                      obtain ⟨e16_, eh16_⟩ := hT94 16 _ rfl
                      obtain ⟨e17_, eh17_⟩ := hT94 17 _ rfl
                      obtain ⟨e18_, eh18_⟩ := hT94 18 _ rfl
                      obtain ⟨e19_, eh19_⟩ := hT94 19 _ rfl
                      obtain ⟨e20_, eh20_⟩ := hT94 20 _ rfl
                      obtain ⟨e21_, eh21_⟩ := hT94 21 _ rfl
                      obtain ⟨e22_, eh22_⟩ := hT94 22 _ rfl
                      obtain ⟨e23_, eh23_⟩ := hT94 23 _ rfl
                      obtain ⟨e24_, eh24_⟩ := hT94 24 _ rfl
                      obtain ⟨e25_, eh25_⟩ := hT94 25 _ rfl
                      obtain ⟨e26_, eh26_⟩ := hT94 26 _ rfl
                      obtain ⟨e27_, eh27_⟩ := hT94 27 _ rfl
                      obtain ⟨e28_, eh28_⟩ := hT94 28 _ rfl
                      obtain ⟨e29_, eh29_⟩ := hT94 29 _ rfl
                      obtain ⟨e30_, eh30_⟩ := hT94 30 _ rfl
                      obtain ⟨e31_, eh31_⟩ := hT94 31 _ rfl
                      obtain ⟨e32_, eh32_⟩ := hT94 32 _ rfl
                      obtain ⟨e33_, eh33_⟩ := hT94 33 _ rfl
                      obtain ⟨e34_, eh34_⟩ := hT94 34 _ rfl
                      obtain ⟨e35_, eh35_⟩ := hT94 35 _ rfl
                      obtain ⟨e36_, eh36_⟩ := hT94 36 _ rfl
                      obtain ⟨e37_, eh37_⟩ := hT94 37 _ rfl
                      obtain ⟨e38_, eh38_⟩ := hT94 38 _ rfl
                      obtain ⟨e39_, eh39_⟩ := hT94 39 _ rfl
                      obtain ⟨e40_, eh40_⟩ := hT94 40 _ rfl
                      obtain ⟨e41_, eh41_⟩ := hT94 41 _ rfl
                      obtain ⟨e42_, eh42_⟩ := hT94 42 _ rfl
                      obtain ⟨b86, o87, e43_, eh43_, hc88⟩ := hT94 43 _ rfl
                      obtain ⟨e44_, eh44_⟩ := hT94 44 _ rfl
                      obtain ⟨e45_, eh45_⟩ := hT94 45 _ rfl
                      obtain ⟨e46_, eh46_⟩ := hT94 46 _ rfl
                      have hH96 : Has E w93 ([sg, [Hp.one pb (.cells #[(.bool p.off), (.bool p.armed), (.int .i64 p.left), (.int .i64 p.uses)] 101 (0, 0))], h1, h2, h3, [Hp.one qm (.cells #[v1, v2, v3] 189 (0, 0))], [Hp.one qb (.cells #[(.bool q.off), (.bool q.armed), (.int .i64 q.left), (.int .i64 q.uses)] 112 (0, 0))], R, s45] ++ []) := flow_back (cs := []) hH95 (by show (hs92 0 ++ (hs92 1 ++ (hs92 2 ++ (hs92 3 ++ (hs92 4 ++ (hs92 5 ++ (hs92 6 ++ (hs92 7 ++ (hs92 8 ++ (hs92 9 ++ (hs92 10 ++ (hs92 11 ++ (hs92 12 ++ (hs92 13 ++ (hs92 14 ++ (hs92 15 ++ (hs92 16 ++ (hs92 17 ++ (hs92 18 ++ (hs92 19 ++ (hs92 20 ++ (hs92 21 ++ (hs92 22 ++ (hs92 23 ++ (hs92 24 ++ (hs92 25 ++ (hs92 26 ++ (hs92 27 ++ (hs92 28 ++ (hs92 29 ++ (hs92 30 ++ (hs92 31 ++ (hs92 32 ++ (hs92 33 ++ (hs92 34 ++ (hs92 35 ++ (hs92 36 ++ (hs92 37 ++ (hs92 38 ++ (hs92 39 ++ (hs92 40 ++ (hs92 41 ++ (hs92 42 ++ (hs92 43 ++ (hs92 44 ++ (hs92 45 ++ (hs92 46 ++ []))))))))))))))))))))))))))))))))))))))))))))))) = _; rw [eh0_, eh1_, eh2_, eh3_, eh4_, eh5_, eh6_, eh7_, eh8_, eh9_, eh10_, eh11_, eh12_, eh13_, eh14_, eh15_, eh16_, eh17_, eh18_, eh19_, eh20_, eh21_, eh22_, eh23_, eh24_, eh25_, eh26_, eh27_, eh28_, eh29_, eh30_, eh31_, eh32_, eh33_, eh34_, eh35_, eh36_, eh37_, eh38_, eh39_, eh40_, eh41_, eh42_, eh43_, eh44_, eh45_, eh46_]; rfl)
                      generalize hr98 : puts vs91 _ 0 _ = r97
                      have e99_0 : r97 0 = (.pointer (some ⟨db, 0, none⟩)) := by rw [← hr98]; exact e65_0
                      have e99_1 : r97 1 = (.pointer (some ⟨qm, 0, none⟩)) := by rw [← hr98]; exact e65_1
                      have e99_2 : r97 2 = (.pointer (some ⟨qb, 0, none⟩)) := by rw [← hr98]; exact e65_2
                      have e99_7 : r97 7 = (.int .i64 (i : Int)) := by rw [← hr98]; exact e65_7
                      have e99_8 : r97 8 = (S (readS p la lo (i : Int))) := by rw [← hr98]; exact rfl
                      have e99_9 : r97 9 = (.int .i64 (readE p la (i : Int))) := by rw [← hr98]; exact rfl
                      have e99_45 : r97 45 = (.bool (decide (¬ ((keysS lo) = ls)))) := by rw [← hr98]; exact e65_45
                      have e99_52 : r97 52 = (.bool (decide ((i : Int) < ((nw.length : Nat) : Int)))) := by rw [← hr98]; exact rfl
                      have e99_107 : r97 107 = (.bool (decide ((lastsS la (i : Int)) ≠ x89))) := by rw [← hr98]; exact e46_
                      refine t_norm (hK78 _ _ ?_)
                      refine c_cond e99_107 (fun h100 => ?_) (fun h100 => ?_)
                      · -- (lastsS la (i : Int)) ≠ x89
                        exact absurd (lasts_at (show inS (i : Int) la.length from ⟨by omega, by omega⟩) (show la[((i : Int)).toNat]? = some _ from hx90)) h100
                      · -- not: (lastsS la (i : Int)) ≠ x89
                        refine wp_skip ?_
                        refine b_norm ?_
                        refine t_norm (hK73 _ _ ?_)
                        refine c_region ?_
                        refine s_op (o_move (v := (.int .i64 (i : Int))) e99_7 ?_)
                        refine s_op (o_add (a := (i : Int)) (b := 1) rfl rfl (w64 (by omega) (by omega)) ?_)
                        refine s_op (o_assign (v := (.int .i64 ((i : Int) + 1))) rfl ?_)
                        refine s_nil ?_
                        refine t_norm ⟨nw.length - (i + 1), _, rfl, ?_, ?_⟩
                        · omega
                        · exact ⟨(i + 1), rfl, hH96, (by omega), e99_0, e99_1, e99_2, rfl, e99_45⟩
              · -- not: q.off
                obtain ⟨x104, hx105⟩ : ∃ x_, nw[((i : Int)).toNat]? = some x_ := get_some (by omega)
                by_cases h106 : (readS p la lo (i : Int)) ≠ x104
                · -- (readS p la lo (i : Int)) ≠ x104
                  exact absurd (hsim.read_ok hpr h79 (show inS (i : Int) la.length from ⟨by omega, by omega⟩) (show nw[((i : Int)).toNat]? = some _ from hx105)).1 h106
                · -- not: (readS p la lo (i : Int)) ≠ x104
                  by_cases h107 : readE p la (i : Int) ≠ 0
                  · -- readE p la (i : Int) ≠ 0
                    exact absurd (hsim.read_ok hpr h79 (show inS (i : Int) la.length from ⟨by omega, by omega⟩) (show nw[((i : Int)).toNat]? = some _ from hx105)).2 h107
                  · -- not: readE p la (i : Int) ≠ 0
                    have hnd111 : (sg ++ [Hp.one pb (.cells #[(.bool p.off), (.bool p.armed), (.int .i64 p.left), (.int .i64 p.uses)] 101 (0, 0))]).Nodup := dev_nodup hd ((hH76.front 1 rfl).front 1 rfl)
                    obtain ⟨x118, hx119⟩ : ∃ x_, la[((i : Int)).toNat]? = some x_ := get_some (by omega)
                    refine c_flow3 [sg, [Hp.one pb (.cells #[(.bool p.off), (.bool p.armed), (.int .i64 p.left), (.int .i64 p.uses)] 101 (0, 0))], h1, h2, h3, [Hp.one qm (.cells #[v1, v2, v3] 189 (0, 0))], [Hp.one qb (.cells #[(.bool q.off), (.bool q.armed), (.int .i64 q.left), (.int .i64 q.uses)] 112 (0, 0))], R, s45] (fun i_ => match i_ with | _ => []) (fun i_ v_ h_ m_ => match i_ with | 0 => v_ = (.pointer (some ⟨qb, 0, none⟩)) ∧ h_ = [] | 1 => v_ = (.pointer (some ⟨qb, 0, none⟩)) ∧ h_ = [] | 2 => v_ = (.pointer (some ⟨qb, 0, none⟩)) ∧ h_ = [] | 3 => v_ = (.bool q.off) ∧ h_ = [] | 4 => v_ = (.bool q.off) ∧ h_ = [] | 5 => v_ = undef ∧ h_ = [] | 6 => v_ = undef ∧ h_ = [] | 7 => v_ = undef ∧ h_ = [] | 8 => v_ = undef ∧ h_ = [] | 9 => v_ = undef ∧ h_ = [] | 10 => v_ = undef ∧ h_ = [] | 11 => v_ = (.bool false) ∧ h_ = [] | 12 => v_ = (.bool false) ∧ h_ = [] | 13 => v_ = (.pointer (some ⟨qb, 0, none⟩)) ∧ h_ = [] | 14 => v_ = (.pointer (some ⟨qb, 0, none⟩)) ∧ h_ = [] | 15 => v_ = (.pointer (some ⟨qb, 0, none⟩)) ∧ h_ = [] | 16 => v_ = (.bool q.off) ∧ h_ = [] | 17 => v_ = (.bool true) ∧ h_ = [] | 18 => v_ = (.bool true) ∧ h_ = [] | 19 => v_ = (S (readS p la lo (i : Int))) ∧ h_ = [] | 20 => v_ = (.pointer (some ⟨qm, 0, none⟩)) ∧ h_ = [] | 21 => v_ = (.pointer (some ⟨qm, 0, none⟩)) ∧ h_ = [] | 22 => v_ = (.pointer (some ⟨qm, 1, none⟩)) ∧ h_ = [] | 23 => v_ = v2 ∧ h_ = [] | 24 => v_ = (.int .i64 (i : Int)) ∧ h_ = [] | 25 => ∃ (b108 : Nat) (o109 : Nat), v_ = (.pointer (some ⟨b108, o109, none⟩)) ∧ h_ = [] ∧ (CellsAt h2 b108 o109 [(S x104)]) | 26 => v_ = (S x104) ∧ h_ = [] | 27 => v_ = (.bool (decide ((readS p la lo (i : Int)) ≠ x104))) ∧ h_ = [] | 28 => v_ = (.bool (decide ((readS p la lo (i : Int)) ≠ x104))) ∧ h_ = [] | 29 => v_ = (.int .i64 (readE p la (i : Int))) ∧ h_ = [] | 30 => v_ = (.bool (decide (readE p la (i : Int) ≠ 0))) ∧ h_ = [] | 31 => v_ = (.bool (decide (readE p la (i : Int) ≠ 0))) ∧ h_ = [] | 32 => v_ = (.bool (decide (readE p la (i : Int) ≠ 0))) ∧ h_ = [] | 33 => v_ = (.bool (decide (readE p la (i : Int) ≠ 0))) ∧ h_ = [] | 34 => v_ = (.bool (decide (readE p la (i : Int) ≠ 0))) ∧ h_ = [] | 35 => v_ = (.pointer (some ⟨db, 0, none⟩)) ∧ h_ = [] | 36 => v_ = (.int .i64 (i : Int)) ∧ h_ = [] | 37 => v_ = (S (lastsS la (i : Int))) ∧ h_ = [] | 38 => v_ = (.pointer (some ⟨qm, 0, none⟩)) ∧ h_ = [] | 39 => v_ = (.pointer (some ⟨qm, 0, none⟩)) ∧ h_ = [] | 40 => v_ = (.pointer (some ⟨qm, 0, none⟩)) ∧ h_ = [] | 41 => v_ = v1 ∧ h_ = [] | 42 => v_ = (.int .i64 (i : Int)) ∧ h_ = [] | 43 => ∃ (b115 : Nat) (o116 : Nat), v_ = (.pointer (some ⟨b115, o116, none⟩)) ∧ h_ = [] ∧ (CellsAt h1 b115 o116 [(S x118)]) | 44 => v_ = (S x118) ∧ h_ = [] | 45 => v_ = (.bool (decide ((lastsS la (i : Int)) ≠ x118))) ∧ h_ = [] | 46 => v_ = (.bool (decide ((lastsS la (i : Int)) ≠ x118))) ∧ h_ = [] | _ => True) mixed (by kernel_rfl) (flow_has (cs := []) hH76 rfl) ?_ ?_
                    · intro i_ o_ ho_ r' w' G hs_ ht
                      match i_, ho_ with
                      | 0, ho_ =>
                        obtain rfl := Option.some.inj ho_
                        have e2 : r' 2 = (.pointer (some ⟨qb, 0, none⟩)) := (ht.was 2 (by kernel_rfl)).trans e65_2
                        have hG := ht.has.drop
                        refine GOK.free rfl ?_
                        refine o_move (v := (.pointer (some ⟨qb, 0, none⟩))) e2 ?_
                        exact ⟨_, ⟨rfl, rfl⟩, hG⟩
                      | 1, ho_ =>
                        obtain rfl := Option.some.inj ho_
                        obtain ⟨e61, eh0⟩ := (ht.done 0 _ rfl rfl).1
                        have hG := ht.has.drop
                        refine GOK.free rfl ?_
                        refine o_nilCheck e61 ?_
                        exact ⟨_, ⟨rfl, rfl⟩, hG⟩
                      | 2, ho_ =>
                        obtain rfl := Option.some.inj ho_
                        obtain ⟨e62, eh1⟩ := (ht.done 1 _ rfl rfl).1
                        have hG := ht.has.drop
                        refine GOK.free rfl ?_
                        refine o_fieldAddr (k := 0) (fun _ => by kernel_rfl) e62 ?_
                        exact ⟨_, ⟨rfl, rfl⟩, hG⟩
                      | 3, ho_ =>
                        obtain rfl := Option.some.inj ho_
                        obtain ⟨e63, eh2⟩ := (ht.done 2 _ rfl rfl).1
                        have hG := ht.has.drop
                        refine GOK.free rfl ?_
                        refine o_load1 (v := (.bool q.off)) Try.underlying4 rfl e63 hG (ht.fr [Hp.one qb (.cells #[(.bool q.off), (.bool q.armed), (.int .i64 q.left), (.int .i64 q.uses)] 112 (0, 0))] (by simp)) (CellsAt.one rfl) ?_
                        exact ⟨_, ⟨rfl, rfl⟩, hG⟩
                      | 4, ho_ =>
                        obtain rfl := Option.some.inj ho_
                        obtain ⟨e64, eh3⟩ := (ht.done 3 _ rfl rfl).1
                        have hG := ht.has.drop
                        refine GOK.free rfl ?_
                        refine o_move (v := (.bool q.off)) e64 ?_
                        exact ⟨_, ⟨rfl, rfl⟩, hG⟩
                      | 5, ho_ =>
                        obtain rfl := Option.some.inj ho_
                        obtain ⟨e65, eh4⟩ := (ht.done 4 _ rfl rfl).1
                        have hG := ht.has.drop
                        refine GOK.off (b' := false) rfl rfl (Eq.trans e65 (congrArg Value.bool h79)) rfl ?_
                        exact ⟨_, ⟨rfl, rfl⟩, ht.has⟩
                      | 6, ho_ =>
                        obtain rfl := Option.some.inj ho_
                        obtain ⟨e65, eh4⟩ := (ht.done 4 _ rfl rfl).1
                        have hG := ht.has.drop
                        refine GOK.off (b' := false) rfl rfl (Eq.trans e65 (congrArg Value.bool h79)) rfl ?_
                        exact ⟨_, ⟨rfl, rfl⟩, ht.has⟩
                      | 7, ho_ =>
                        obtain rfl := Option.some.inj ho_
                        obtain ⟨e65, eh4⟩ := (ht.done 4 _ rfl rfl).1
                        have hG := ht.has.drop
                        refine GOK.off (b' := false) rfl rfl (Eq.trans e65 (congrArg Value.bool h79)) rfl ?_
                        exact ⟨_, ⟨rfl, rfl⟩, ht.has⟩
                      | 8, ho_ =>
                        obtain rfl := Option.some.inj ho_
                        obtain ⟨e68, eh7⟩ := (ht.done 7 _ rfl rfl).1
                        have hG := ht.has.drop
                        refine GOK.offu rfl rfl e68 ?_
                        exact ⟨_, ⟨rfl, rfl⟩, ht.has⟩
                      | 9, ho_ =>
                        obtain rfl := Option.some.inj ho_
                        obtain ⟨e68, eh7⟩ := (ht.done 7 _ rfl rfl).1
                        have hG := ht.has.drop
                        refine GOK.offu rfl rfl e68 ?_
                        exact ⟨_, ⟨rfl, rfl⟩, ht.has⟩
                      | 10, ho_ =>
                        obtain rfl := Option.some.inj ho_
                        obtain ⟨e65, eh4⟩ := (ht.done 4 _ rfl rfl).1
                        have hG := ht.has.drop
                        refine GOK.off (b' := false) rfl rfl (Eq.trans e65 (congrArg Value.bool h79)) rfl ?_
                        exact ⟨_, ⟨rfl, rfl⟩, ht.has⟩
                      | 11, ho_ =>
                        obtain rfl := Option.some.inj ho_
                        obtain ⟨e65, eh4⟩ := (ht.done 4 _ rfl rfl).1
                        obtain ⟨e71, eh10⟩ := (ht.done 10 _ rfl rfl).1
                        have hG := ht.has.drop
                        refine GOK.free rfl ?_
                        refine o_pick_f (u := (.bool false)) ((e65 : _ = _).trans (congrArg Value.bool h79)) rfl ?_
                        exact ⟨_, ⟨rfl, rfl⟩, hG⟩
                      | 12, ho_ =>
                        obtain rfl := Option.some.inj ho_
                        obtain ⟨e72, eh11⟩ := (ht.done 11 _ rfl rfl).1
                        have hG := ht.has.drop
                        refine GOK.free rfl ?_
                        refine o_move (v := (.bool false)) e72 ?_
                        exact ⟨_, ⟨rfl, rfl⟩, hG⟩
                      | 13, ho_ =>
                        obtain rfl := Option.some.inj ho_
                        obtain ⟨e73, eh12⟩ := (ht.done 12 _ rfl rfl).1
                        have e2 : r' 2 = (.pointer (some ⟨qb, 0, none⟩)) := (ht.was 2 (by kernel_rfl)).trans e65_2
                        have hG := ht.has.drop
                        refine GOK.on rfl rfl e73 ?_
                        refine o_move (v := (.pointer (some ⟨qb, 0, none⟩))) e2 ?_
                        exact ⟨_, ⟨rfl, rfl⟩, hG⟩
                      | 14, ho_ =>
                        obtain rfl := Option.some.inj ho_
                        obtain ⟨e73, eh12⟩ := (ht.done 12 _ rfl rfl).1
                        obtain ⟨e74, eh13⟩ := (ht.done 13 _ rfl rfl).1
                        have hG := ht.has.drop
                        refine GOK.on rfl rfl e73 ?_
                        refine o_nilCheck e74 ?_
                        exact ⟨_, ⟨rfl, rfl⟩, hG⟩
                      | 15, ho_ =>
                        obtain rfl := Option.some.inj ho_
                        obtain ⟨e73, eh12⟩ := (ht.done 12 _ rfl rfl).1
                        obtain ⟨e75, eh14⟩ := (ht.done 14 _ rfl rfl).1
                        have hG := ht.has.drop
                        refine GOK.on rfl rfl e73 ?_
                        refine o_fieldAddr (k := 0) (fun _ => by kernel_rfl) e75 ?_
                        exact ⟨_, ⟨rfl, rfl⟩, hG⟩
                      | 16, ho_ =>
                        obtain rfl := Option.some.inj ho_
                        obtain ⟨e73, eh12⟩ := (ht.done 12 _ rfl rfl).1
                        obtain ⟨e76, eh15⟩ := (ht.done 15 _ rfl rfl).1
                        have hG := ht.has.drop
                        refine GOK.on rfl rfl e73 ?_
                        refine o_load1 (v := (.bool q.off)) Try.underlying4 rfl e76 hG (ht.fr [Hp.one qb (.cells #[(.bool q.off), (.bool q.armed), (.int .i64 q.left), (.int .i64 q.uses)] 112 (0, 0))] (by simp)) (CellsAt.one rfl) ?_
                        exact ⟨_, ⟨rfl, rfl⟩, hG⟩
                      | 17, ho_ =>
                        obtain rfl := Option.some.inj ho_
                        obtain ⟨e73, eh12⟩ := (ht.done 12 _ rfl rfl).1
                        obtain ⟨e77, eh16⟩ := (ht.done 16 _ rfl rfl).1
                        have hG := ht.has.drop
                        refine GOK.on rfl rfl e73 ?_
                        refine o_not (b := false) ((e77 : _ = _).trans (congrArg Value.bool h79)) ?_
                        exact ⟨_, ⟨rfl, rfl⟩, hG⟩
                      | 18, ho_ =>
                        obtain rfl := Option.some.inj ho_
                        obtain ⟨e73, eh12⟩ := (ht.done 12 _ rfl rfl).1
                        obtain ⟨e78, eh17⟩ := (ht.done 17 _ rfl rfl).1
                        have hG := ht.has.drop
                        refine GOK.on rfl rfl e73 ?_
                        refine o_move (v := (.bool true)) e78 ?_
                        exact ⟨_, ⟨rfl, rfl⟩, hG⟩
                      | 19, ho_ =>
                        obtain rfl := Option.some.inj ho_
                        obtain ⟨e79, eh18⟩ := (ht.done 18 _ rfl rfl).1
                        have e8 : r' 8 = (S (readS p la lo (i : Int))) := ht.was 8 (by kernel_rfl)
                        have hG := ht.has.drop
                        refine GOK.on rfl rfl e79 ?_
                        refine o_move (v := (S (readS p la lo (i : Int)))) e8 ?_
                        exact ⟨_, ⟨rfl, rfl⟩, hG⟩
                      | 20, ho_ =>
                        obtain rfl := Option.some.inj ho_
                        obtain ⟨e79, eh18⟩ := (ht.done 18 _ rfl rfl).1
                        have e1 : r' 1 = (.pointer (some ⟨qm, 0, none⟩)) := (ht.was 1 (by kernel_rfl)).trans e65_1
                        have hG := ht.has.drop
                        refine GOK.on rfl rfl e79 ?_
                        refine o_move (v := (.pointer (some ⟨qm, 0, none⟩))) e1 ?_
                        exact ⟨_, ⟨rfl, rfl⟩, hG⟩
                      | 21, ho_ =>
                        obtain rfl := Option.some.inj ho_
                        obtain ⟨e79, eh18⟩ := (ht.done 18 _ rfl rfl).1
                        obtain ⟨e81, eh20⟩ := (ht.done 20 _ rfl rfl).1
                        have hG := ht.has.drop
                        refine GOK.on rfl rfl e79 ?_
                        refine o_nilCheck e81 ?_
                        exact ⟨_, ⟨rfl, rfl⟩, hG⟩
                      | 22, ho_ =>
                        obtain rfl := Option.some.inj ho_
                        obtain ⟨e79, eh18⟩ := (ht.done 18 _ rfl rfl).1
                        obtain ⟨e82, eh21⟩ := (ht.done 21 _ rfl rfl).1
                        have hG := ht.has.drop
                        refine GOK.on rfl rfl e79 ?_
                        refine o_fieldAddr (k := 1) (fun _ => by kernel_rfl) e82 ?_
                        exact ⟨_, ⟨rfl, rfl⟩, hG⟩
                      | 23, ho_ =>
                        obtain rfl := Option.some.inj ho_
                        obtain ⟨e79, eh18⟩ := (ht.done 18 _ rfl rfl).1
                        obtain ⟨e83, eh22⟩ := (ht.done 22 _ rfl rfl).1
                        have hG := ht.has.drop
                        refine GOK.on rfl rfl e79 ?_
                        refine o_load1 (v := v2) Try.underlying53 rfl e83 hG (ht.fr [Hp.one qm (.cells #[v1, v2, v3] 189 (0, 0))] (by simp)) (CellsAt.one rfl) ?_
                        exact ⟨_, ⟨rfl, rfl⟩, hG⟩
                      | 24, ho_ =>
                        obtain rfl := Option.some.inj ho_
                        obtain ⟨e79, eh18⟩ := (ht.done 18 _ rfl rfl).1
                        have e7 : r' 7 = (.int .i64 (i : Int)) := (ht.was 7 (by kernel_rfl)).trans e65_7
                        have hG := ht.has.drop
                        refine GOK.on rfl rfl e79 ?_
                        refine o_move (v := (.int .i64 (i : Int))) e7 ?_
                        exact ⟨_, ⟨rfl, rfl⟩, hG⟩
                      | 25, ho_ =>
                        obtain rfl := Option.some.inj ho_
                        obtain ⟨e79, eh18⟩ := (ht.done 18 _ rfl rfl).1
                        obtain ⟨e84, eh23⟩ := (ht.done 23 _ rfl rfl).1
                        obtain ⟨e85, eh24⟩ := (ht.done 24 _ rfl rfl).1
                        have hG := ht.has.drop
                        refine GOK.on rfl rfl e79 ?_
                        refine o_index1 Try.underlying53 ti9 e84 ho2.sl e85 (by omega) hx105 fun b108 o109 hc110 => ?_
                        exact ⟨_, ⟨b108, o109, rfl, rfl, hc110⟩, hG⟩
                      | 26, ho_ =>
                        obtain rfl := Option.some.inj ho_
                        obtain ⟨e79, eh18⟩ := (ht.done 18 _ rfl rfl).1
                        obtain ⟨b108, o109, e86, eh25, hc110⟩ := (ht.done 25 _ rfl rfl).1
                        have hG := ht.has.drop
                        refine GOK.on rfl rfl e79 ?_
                        refine o_load1 (v := (S x104)) Try.underlying9 rfl e86 hG (ht.fr h2 (by simp)) hc110 ?_
                        exact ⟨_, ⟨rfl, rfl⟩, hG⟩
                      | 27, ho_ =>
                        obtain rfl := Option.some.inj ho_
                        obtain ⟨e79, eh18⟩ := (ht.done 18 _ rfl rfl).1
                        obtain ⟨e80, eh19⟩ := (ht.done 19 _ rfl rfl).1
                        obtain ⟨b108, o109, e86, eh25, hc110⟩ := (ht.done 25 _ rfl rfl).1
                        obtain ⟨e87, eh26⟩ := (ht.done 26 _ rfl rfl).1
                        have hG := ht.has.drop
                        refine GOK.on rfl rfl e79 ?_
                        refine o_sneq (a := (readS p la lo (i : Int))) (b := x104) e80 e87 ?_
                        exact ⟨_, ⟨rfl, rfl⟩, hG⟩
                      | 28, ho_ =>
                        obtain rfl := Option.some.inj ho_
                        obtain ⟨e79, eh18⟩ := (ht.done 18 _ rfl rfl).1
                        obtain ⟨b108, o109, e86, eh25, hc110⟩ := (ht.done 25 _ rfl rfl).1
                        obtain ⟨e88, eh27⟩ := (ht.done 27 _ rfl rfl).1
                        have hG := ht.has.drop
                        refine GOK.on rfl rfl e79 ?_
                        refine o_move (v := (.bool (decide ((readS p la lo (i : Int)) ≠ x104)))) e88 ?_
                        exact ⟨_, ⟨rfl, rfl⟩, hG⟩
                      | 29, ho_ =>
                        obtain rfl := Option.some.inj ho_
                        obtain ⟨b108, o109, e86, eh25, hc110⟩ := (ht.done 25 _ rfl rfl).1
                        obtain ⟨e89, eh28⟩ := (ht.done 28 _ rfl rfl).1
                        have e9 : r' 9 = (.int .i64 (readE p la (i : Int))) := ht.was 9 (by kernel_rfl)
                        have hG := ht.has.drop
                        refine GOK.on rfl rfl (Eq.trans e89 (congrArg Value.bool (decide_eq_false h106))) ?_
                        refine o_move (v := (.int .i64 (readE p la (i : Int)))) e9 ?_
                        exact ⟨_, ⟨rfl, rfl⟩, hG⟩
                      | 30, ho_ =>
                        obtain rfl := Option.some.inj ho_
                        obtain ⟨b108, o109, e86, eh25, hc110⟩ := (ht.done 25 _ rfl rfl).1
                        obtain ⟨e89, eh28⟩ := (ht.done 28 _ rfl rfl).1
                        obtain ⟨e90, eh29⟩ := (ht.done 29 _ rfl rfl).1
                        have hG := ht.has.drop
                        refine GOK.on rfl rfl (Eq.trans e89 (congrArg Value.bool (decide_eq_false h106))) ?_
                        refine o_neq (a := readE p la (i : Int)) (b := 0) e90 rfl ?_
                        exact ⟨_, ⟨rfl, rfl⟩, hG⟩
                      | 31, ho_ =>
                        obtain rfl := Option.some.inj ho_
                        obtain ⟨e79, eh18⟩ := (ht.done 18 _ rfl rfl).1
                        obtain ⟨b108, o109, e86, eh25, hc110⟩ := (ht.done 25 _ rfl rfl).1
                        obtain ⟨e89, eh28⟩ := (ht.done 28 _ rfl rfl).1
                        obtain ⟨e91, eh30⟩ := (ht.done 30 _ rfl rfl).1
                        have hG := ht.has.drop
                        refine GOK.on rfl rfl e79 ?_
                        refine o_pick_f (u := (.bool (decide (readE p la (i : Int) ≠ 0)))) ((e89 : _ = _).trans (congrArg Value.bool (decide_eq_false h106))) e91 ?_
                        exact ⟨_, ⟨rfl, rfl⟩, hG⟩
                      | 32, ho_ =>
                        obtain rfl := Option.some.inj ho_
                        obtain ⟨e73, eh12⟩ := (ht.done 12 _ rfl rfl).1
                        obtain ⟨e79, eh18⟩ := (ht.done 18 _ rfl rfl).1
                        obtain ⟨b108, o109, e86, eh25, hc110⟩ := (ht.done 25 _ rfl rfl).1
                        obtain ⟨e92, eh31⟩ := (ht.done 31 _ rfl rfl).1
                        have hG := ht.has.drop
                        refine GOK.on rfl rfl e73 ?_
                        refine o_pick_t (u := (.bool (decide (readE p la (i : Int) ≠ 0)))) e79 e92 ?_
                        exact ⟨_, ⟨rfl, rfl⟩, hG⟩
                      | 33, ho_ =>
                        obtain rfl := Option.some.inj ho_
                        obtain ⟨e73, eh12⟩ := (ht.done 12 _ rfl rfl).1
                        obtain ⟨b108, o109, e86, eh25, hc110⟩ := (ht.done 25 _ rfl rfl).1
                        obtain ⟨e93, eh32⟩ := (ht.done 32 _ rfl rfl).1
                        have hG := ht.has.drop
                        refine GOK.free rfl ?_
                        refine o_pick_f (u := (.bool (decide (readE p la (i : Int) ≠ 0)))) e73 e93 ?_
                        exact ⟨_, ⟨rfl, rfl⟩, hG⟩
                      | 34, ho_ =>
                        obtain rfl := Option.some.inj ho_
                        obtain ⟨b108, o109, e86, eh25, hc110⟩ := (ht.done 25 _ rfl rfl).1
                        obtain ⟨e94, eh33⟩ := (ht.done 33 _ rfl rfl).1
                        have hG := ht.has.drop
                        refine GOK.free rfl ?_
                        refine o_move (v := (.bool (decide (readE p la (i : Int) ≠ 0)))) e94 ?_
                        exact ⟨_, ⟨rfl, rfl⟩, hG⟩
                      | 35, ho_ =>
                        obtain rfl := Option.some.inj ho_
                        obtain ⟨b108, o109, e86, eh25, hc110⟩ := (ht.done 25 _ rfl rfl).1
                        obtain ⟨e95, eh34⟩ := (ht.done 34 _ rfl rfl).1
                        have e0 : r' 0 = (.pointer (some ⟨db, 0, none⟩)) := (ht.was 0 (by kernel_rfl)).trans e65_0
                        have hG := ht.has.drop
                        refine GOK.on rfl rfl (Eq.trans e95 (congrArg Value.bool (decide_eq_false h107))) ?_
                        refine o_move (v := (.pointer (some ⟨db, 0, none⟩))) e0 ?_
                        exact ⟨_, ⟨rfl, rfl⟩, hG⟩
                      | 36, ho_ =>
                        obtain rfl := Option.some.inj ho_
                        obtain ⟨b108, o109, e86, eh25, hc110⟩ := (ht.done 25 _ rfl rfl).1
                        obtain ⟨e95, eh34⟩ := (ht.done 34 _ rfl rfl).1
                        have e7 : r' 7 = (.int .i64 (i : Int)) := (ht.was 7 (by kernel_rfl)).trans e65_7
                        have hG := ht.has.drop
                        refine GOK.on rfl rfl (Eq.trans e95 (congrArg Value.bool (decide_eq_false h107))) ?_
                        refine o_move (v := (.int .i64 (i : Int))) e7 ?_
                        exact ⟨_, ⟨rfl, rfl⟩, hG⟩
                      | 37, ho_ =>
                        obtain rfl := Option.some.inj ho_
                        obtain ⟨b108, o109, e86, eh25, hc110⟩ := (ht.done 25 _ rfl rfl).1
                        obtain ⟨e95, eh34⟩ := (ht.done 34 _ rfl rfl).1
                        obtain ⟨e96, eh35⟩ := (ht.done 35 _ rfl rfl).1
                        obtain ⟨e97, eh36⟩ := (ht.done 36 _ rfl rfl).1
                        have hG := ht.has.drop
                        refine GOK.on rfl rfl (Eq.trans e95 (congrArg Value.bool (decide_eq_false h107))) ?_
                        refine o_callf (vs := #[(.pointer (some ⟨db, 0, none⟩)), (.int .i64 (i : Int))]) ca51 rfl (args2 e96 e97) (lasts_r (p := p) (la := la) (lo := lo) hG.all hd hnd111 (in_sub (ht.fr sg (by simp)) (ht.fr [Hp.one pb (.cells #[(.bool p.off), (.bool p.armed), (.int .i64 p.left), (.int .i64 p.uses)] 101 (0, 0))] (by simp))) (i : Int)) ?_
                        rintro _ w114 ⟨rfl, hX112⟩
                        refine ⟨_, rfl, ?_⟩
                        have hH113 := hX112.of_all
                        exact ⟨_, ⟨rfl, rfl⟩, hH113⟩
                      | 38, ho_ =>
                        obtain rfl := Option.some.inj ho_
                        obtain ⟨b108, o109, e86, eh25, hc110⟩ := (ht.done 25 _ rfl rfl).1
                        obtain ⟨e95, eh34⟩ := (ht.done 34 _ rfl rfl).1
                        have e1 : r' 1 = (.pointer (some ⟨qm, 0, none⟩)) := (ht.was 1 (by kernel_rfl)).trans e65_1
                        have hG := ht.has.drop
                        refine GOK.on rfl rfl (Eq.trans e95 (congrArg Value.bool (decide_eq_false h107))) ?_
                        refine o_move (v := (.pointer (some ⟨qm, 0, none⟩))) e1 ?_
                        exact ⟨_, ⟨rfl, rfl⟩, hG⟩
                      | 39, ho_ =>
                        obtain rfl := Option.some.inj ho_
                        obtain ⟨b108, o109, e86, eh25, hc110⟩ := (ht.done 25 _ rfl rfl).1
                        obtain ⟨e95, eh34⟩ := (ht.done 34 _ rfl rfl).1
                        obtain ⟨e99, eh38⟩ := (ht.done 38 _ rfl rfl).1
                        have hG := ht.has.drop
                        refine GOK.on rfl rfl (Eq.trans e95 (congrArg Value.bool (decide_eq_false h107))) ?_
                        refine o_nilCheck e99 ?_
                        exact ⟨_, ⟨rfl, rfl⟩, hG⟩
                      | 40, ho_ =>
                        obtain rfl := Option.some.inj ho_
                        obtain ⟨b108, o109, e86, eh25, hc110⟩ := (ht.done 25 _ rfl rfl).1
                        obtain ⟨e95, eh34⟩ := (ht.done 34 _ rfl rfl).1
                        obtain ⟨e100, eh39⟩ := (ht.done 39 _ rfl rfl).1
                        have hG := ht.has.drop
                        refine GOK.on rfl rfl (Eq.trans e95 (congrArg Value.bool (decide_eq_false h107))) ?_
                        refine o_fieldAddr (k := 0) (fun _ => by kernel_rfl) e100 ?_
                        exact ⟨_, ⟨rfl, rfl⟩, hG⟩
                      | 41, ho_ =>
                        obtain rfl := Option.some.inj ho_
                        obtain ⟨b108, o109, e86, eh25, hc110⟩ := (ht.done 25 _ rfl rfl).1
                        obtain ⟨e95, eh34⟩ := (ht.done 34 _ rfl rfl).1
                        obtain ⟨e101, eh40⟩ := (ht.done 40 _ rfl rfl).1
                        have hG := ht.has.drop
                        refine GOK.on rfl rfl (Eq.trans e95 (congrArg Value.bool (decide_eq_false h107))) ?_
                        refine o_load1 (v := v1) Try.underlying53 rfl e101 hG (ht.fr [Hp.one qm (.cells #[v1, v2, v3] 189 (0, 0))] (by simp)) (CellsAt.one rfl) ?_
                        exact ⟨_, ⟨rfl, rfl⟩, hG⟩
                      | 42, ho_ =>
                        obtain rfl := Option.some.inj ho_
                        obtain ⟨b108, o109, e86, eh25, hc110⟩ := (ht.done 25 _ rfl rfl).1
                        obtain ⟨e95, eh34⟩ := (ht.done 34 _ rfl rfl).1
                        have e7 : r' 7 = (.int .i64 (i : Int)) := (ht.was 7 (by kernel_rfl)).trans e65_7
                        have hG := ht.has.drop
                        refine GOK.on rfl rfl (Eq.trans e95 (congrArg Value.bool (decide_eq_false h107))) ?_
                        refine o_move (v := (.int .i64 (i : Int))) e7 ?_
                        exact ⟨_, ⟨rfl, rfl⟩, hG⟩
                      | 43, ho_ =>
                        obtain rfl := Option.some.inj ho_
                        obtain ⟨b108, o109, e86, eh25, hc110⟩ := (ht.done 25 _ rfl rfl).1
                        obtain ⟨e95, eh34⟩ := (ht.done 34 _ rfl rfl).1
                        obtain ⟨e102, eh41⟩ := (ht.done 41 _ rfl rfl).1
                        obtain ⟨e103, eh42⟩ := (ht.done 42 _ rfl rfl).1
                        have hG := ht.has.drop
                        refine GOK.on rfl rfl (Eq.trans e95 (congrArg Value.bool (decide_eq_false h107))) ?_
                        refine o_index1 Try.underlying53 ti9 e102 ho1.sl e103 (by omega) hx119 fun b115 o116 hc117 => ?_
                        exact ⟨_, ⟨b115, o116, rfl, rfl, hc117⟩, hG⟩
                      | 44, ho_ =>
                        obtain rfl := Option.some.inj ho_
                        obtain ⟨b108, o109, e86, eh25, hc110⟩ := (ht.done 25 _ rfl rfl).1
                        obtain ⟨e95, eh34⟩ := (ht.done 34 _ rfl rfl).1
                        obtain ⟨b115, o116, e104, eh43, hc117⟩ := (ht.done 43 _ rfl rfl).1
                        have hG := ht.has.drop
                        refine GOK.on rfl rfl (Eq.trans e95 (congrArg Value.bool (decide_eq_false h107))) ?_
                        refine o_load1 (v := (S x118)) Try.underlying9 rfl e104 hG (ht.fr h1 (by simp)) hc117 ?_
                        exact ⟨_, ⟨rfl, rfl⟩, hG⟩
                      | 45, ho_ =>
                        obtain rfl := Option.some.inj ho_
                        obtain ⟨b108, o109, e86, eh25, hc110⟩ := (ht.done 25 _ rfl rfl).1
                        obtain ⟨e95, eh34⟩ := (ht.done 34 _ rfl rfl).1
                        obtain ⟨e98, eh37⟩ := (ht.done 37 _ rfl rfl).1
                        obtain ⟨b115, o116, e104, eh43, hc117⟩ := (ht.done 43 _ rfl rfl).1
                        obtain ⟨e105, eh44⟩ := (ht.done 44 _ rfl rfl).1
                        have hG := ht.has.drop
                        refine GOK.on rfl rfl (Eq.trans e95 (congrArg Value.bool (decide_eq_false h107))) ?_
                        refine o_sneq (a := (lastsS la (i : Int))) (b := x118) e98 e105 ?_
                        exact ⟨_, ⟨rfl, rfl⟩, hG⟩
                      | 46, ho_ =>
                        obtain rfl := Option.some.inj ho_
                        obtain ⟨b108, o109, e86, eh25, hc110⟩ := (ht.done 25 _ rfl rfl).1
                        obtain ⟨e95, eh34⟩ := (ht.done 34 _ rfl rfl).1
                        obtain ⟨b115, o116, e104, eh43, hc117⟩ := (ht.done 43 _ rfl rfl).1
                        obtain ⟨e106, eh45⟩ := (ht.done 45 _ rfl rfl).1
                        have hG := ht.has.drop
                        refine GOK.free rfl ?_
                        refine o_pick_f (u := (.bool (decide ((lastsS la (i : Int)) ≠ x118)))) ((e95 : _ = _).trans (congrArg Value.bool (decide_eq_false h107))) e106 ?_
                        exact ⟨_, ⟨rfl, rfl⟩, hG⟩
                      | i_ + 47, ho_ => exact absurd ho_ (by simp)
                    · intro vs120 hs121 w122 hT123 hH124
                      obtain ⟨e0_, eh0_⟩ := hT123 0 _ rfl
                      obtain ⟨e1_, eh1_⟩ := hT123 1 _ rfl
                      obtain ⟨e2_, eh2_⟩ := hT123 2 _ rfl
                      obtain ⟨e3_, eh3_⟩ := hT123 3 _ rfl
                      obtain ⟨e4_, eh4_⟩ := hT123 4 _ rfl
                      obtain ⟨e5_, eh5_⟩ := hT123 5 _ rfl
                      obtain ⟨e6_, eh6_⟩ := hT123 6 _ rfl
                      obtain ⟨e7_, eh7_⟩ := hT123 7 _ rfl
                      obtain ⟨e8_, eh8_⟩ := hT123 8 _ rfl
                      obtain ⟨e9_, eh9_⟩ := hT123 9 _ rfl
                      obtain ⟨e10_, eh10_⟩ := hT123 10 _ rfl
                      obtain ⟨e11_, eh11_⟩ := hT123 11 _ rfl
                      obtain ⟨e12_, eh12_⟩ := hT123 12 _ rfl
                      obtain ⟨e13_, eh13_⟩ := hT123 13 _ rfl
                      obtain ⟨e14_, eh14_⟩ := hT123 14 _ rfl
                      obtain ⟨e15_, eh15_⟩ := hT123 15 _ rfl
                      obtain ⟨e16_, eh16_⟩ := hT123 16 _ rfl
                      obtain ⟨e17_, eh17_⟩ := hT123 17 _ rfl
                      obtain ⟨e18_, eh18_⟩ := hT123 18 _ rfl
                      obtain ⟨e19_, eh19_⟩ := hT123 19 _ rfl
                      obtain ⟨e20_, eh20_⟩ := hT123 20 _ rfl
                      obtain ⟨e21_, eh21_⟩ := hT123 21 _ rfl
                      obtain ⟨e22_, eh22_⟩ := hT123 22 _ rfl
                      obtain ⟨e23_, eh23_⟩ := hT123 23 _ rfl
                      obtain ⟨e24_, eh24_⟩ := hT123 24 _ rfl
                      obtain ⟨b108, o109, e25_, eh25_, hc110⟩ := hT123 25 _ rfl
                      obtain ⟨e26_, eh26_⟩ := hT123 26 _ rfl
                      obtain ⟨e27_, eh27_⟩ := hT123 27 _ rfl
                      obtain ⟨e28_, eh28_⟩ := hT123 28 _ rfl
                      obtain ⟨e29_, eh29_⟩ := hT123 29 _ rfl
                      obtain ⟨e30_, eh30_⟩ := hT123 30 _ rfl
                      obtain ⟨e31_, eh31_⟩ := hT123 31 _ rfl
                      obtain ⟨e32_, eh32_⟩ := hT123 32 _ rfl
                      obtain ⟨e33_, eh33_⟩ := hT123 33 _ rfl
                      obtain ⟨e34_, eh34_⟩ := hT123 34 _ rfl
                      obtain ⟨e35_, eh35_⟩ := hT123 35 _ rfl
                      obtain ⟨e36_, eh36_⟩ := hT123 36 _ rfl
                      obtain ⟨e37_, eh37_⟩ := hT123 37 _ rfl
                      obtain ⟨e38_, eh38_⟩ := hT123 38 _ rfl
                      obtain ⟨e39_, eh39_⟩ := hT123 39 _ rfl
                      obtain ⟨e40_, eh40_⟩ := hT123 40 _ rfl
                      obtain ⟨e41_, eh41_⟩ := hT123 41 _ rfl
                      obtain ⟨e42_, eh42_⟩ := hT123 42 _ rfl
                      obtain ⟨b115, o116, e43_, eh43_, hc117⟩ := hT123 43 _ rfl
                      obtain ⟨e44_, eh44_⟩ := hT123 44 _ rfl
                      obtain ⟨e45_, eh45_⟩ := hT123 45 _ rfl
                      obtain ⟨e46_, eh46_⟩ := hT123 46 _ rfl
                      have hH125 : Has E w122 ([sg, [Hp.one pb (.cells #[(.bool p.off), (.bool p.armed), (.int .i64 p.left), (.int .i64 p.uses)] 101 (0, 0))], h1, h2, h3, [Hp.one qm (.cells #[v1, v2, v3] 189 (0, 0))], [Hp.one qb (.cells #[(.bool q.off), (.bool q.armed), (.int .i64 q.left), (.int .i64 q.uses)] 112 (0, 0))], R, s45] ++ []) := flow_back (cs := []) hH124 (by show (hs121 0 ++ (hs121 1 ++ (hs121 2 ++ (hs121 3 ++ (hs121 4 ++ (hs121 5 ++ (hs121 6 ++ (hs121 7 ++ (hs121 8 ++ (hs121 9 ++ (hs121 10 ++ (hs121 11 ++ (hs121 12 ++ (hs121 13 ++ (hs121 14 ++ (hs121 15 ++ (hs121 16 ++ (hs121 17 ++ (hs121 18 ++ (hs121 19 ++ (hs121 20 ++ (hs121 21 ++ (hs121 22 ++ (hs121 23 ++ (hs121 24 ++ (hs121 25 ++ (hs121 26 ++ (hs121 27 ++ (hs121 28 ++ (hs121 29 ++ (hs121 30 ++ (hs121 31 ++ (hs121 32 ++ (hs121 33 ++ (hs121 34 ++ (hs121 35 ++ (hs121 36 ++ (hs121 37 ++ (hs121 38 ++ (hs121 39 ++ (hs121 40 ++ (hs121 41 ++ (hs121 42 ++ (hs121 43 ++ (hs121 44 ++ (hs121 45 ++ (hs121 46 ++ []))))))))))))))))))))))))))))))))))))))))))))))) = _; rw [eh0_, eh1_, eh2_, eh3_, eh4_, eh5_, eh6_, eh7_, eh8_, eh9_, eh10_, eh11_, eh12_, eh13_, eh14_, eh15_, eh16_, eh17_, eh18_, eh19_, eh20_, eh21_, eh22_, eh23_, eh24_, eh25_, eh26_, eh27_, eh28_, eh29_, eh30_, eh31_, eh32_, eh33_, eh34_, eh35_, eh36_, eh37_, eh38_, eh39_, eh40_, eh41_, eh42_, eh43_, eh44_, eh45_, eh46_]; rfl)
                      generalize hr127 : puts vs120 _ 0 _ = r126
                      have e128_0 : r126 0 = (.pointer (some ⟨db, 0, none⟩)) := by rw [← hr127]; exact e65_0
                      have e128_1 : r126 1 = (.pointer (some ⟨qm, 0, none⟩)) := by rw [← hr127]; exact e65_1
                      have e128_2 : r126 2 = (.pointer (some ⟨qb, 0, none⟩)) := by rw [← hr127]; exact e65_2
                      have e128_7 : r126 7 = (.int .i64 (i : Int)) := by rw [← hr127]; exact e65_7
                      have e128_8 : r126 8 = (S (readS p la lo (i : Int))) := by rw [← hr127]; exact rfl
                      have e128_9 : r126 9 = (.int .i64 (readE p la (i : Int))) := by rw [← hr127]; exact rfl
                      have e128_45 : r126 45 = (.bool (decide (¬ ((keysS lo) = ls)))) := by rw [← hr127]; exact e65_45
                      have e128_52 : r126 52 = (.bool (decide ((i : Int) < ((nw.length : Nat) : Int)))) := by rw [← hr127]; exact rfl
                      have e128_107 : r126 107 = (.bool (decide ((lastsS la (i : Int)) ≠ x118))) := by rw [← hr127]; exact e46_
                      refine t_norm (hK78 _ _ ?_)
                      refine c_cond e128_107 (fun h129 => ?_) (fun h129 => ?_)
                      · -- (lastsS la (i : Int)) ≠ x118
                        exact absurd (lasts_at (show inS (i : Int) la.length from ⟨by omega, by omega⟩) (show la[((i : Int)).toNat]? = some _ from hx119)) h129
                      · -- not: (lastsS la (i : Int)) ≠ x118
                        refine wp_skip ?_
                        refine b_norm ?_
                        refine t_norm (hK73 _ _ ?_)
                        refine c_region ?_
                        refine s_op (o_move (v := (.int .i64 (i : Int))) e128_7 ?_)
                        refine s_op (o_add (a := (i : Int)) (b := 1) rfl rfl (w64 (by omega) (by omega)) ?_)
                        refine s_op (o_assign (v := (.int .i64 ((i : Int) + 1))) rfl ?_)
                        refine s_nil ?_
                        refine t_norm ⟨nw.length - (i + 1), _, rfl, ?_, ?_⟩
                        · omega
                        · exact ⟨(i + 1), rfl, hH125, (by omega), e128_0, e128_1, e128_2, rfl, e128_45⟩
            · -- not: (i : Int) < ((nw.length : Nat) : Int)
              refine wp_exit ?_
              refine t_exit (t_exit (x_in (?_)))
              refine t_norm (hK63 _ _ ?_)
              refine wp_seq_k fun K130 hK130 => ?_
              refine c_region ?_
              refine s_op (o_assign (v := (.bool true)) rfl ?_)
              refine s_nil ?_
              refine t_norm (hK130 _ _ ?_)
              refine wp_ret ?_
              refine c_ret1 Try.results56  (v := (.bool true)) rfl ?_
              have hH131 : Has E w67 [sg, [Hp.one pb (.cells #[(.bool p.off), (.bool p.armed), (.int .i64 p.left), (.int .i64 p.uses)] 101 (0, 0))], h1, h2, h3, [Hp.one qm (.cells #[v1, v2, v3] 189 (0, 0))], [Hp.one qb (.cells #[(.bool q.off), (.bool q.armed), (.int .i64 q.left), (.int .i64 q.uses)] 112 (0, 0))], R] := Has.pick hH68 [0, 0, 0, 0, 0, 0, 0, 0] (by kernel_rfl)
              exact ⟨rfl, hH131⟩
theorem pon_r {E w : World} {R : List Hp} {pb : Nat} {p : Pw} (hH : Has E w [R]) (hs : [Hp.one pb (.cells #[(.bool p.off), (.bool p.armed), (.int .i64 p.left), (.int .i64 p.uses)] 101 (0, 0))] ⊆ R) : Calls Try.prog 57 #[(.pointer (some ⟨pb, 0, none⟩))] w fun e w' => e = .returned (.bool (!p.off)) ∧ Has E w' [R] :=
  Calls.inside (Q := fun e => e = .returned (.bool (!p.off))) hH (by simp) hs fun R' H => pon_c H
theorem puses_r {E w : World} {R : List Hp} {pb : Nat} {p : Pw} (hH : Has E w [R]) (hs : [Hp.one pb (.cells #[(.bool p.off), (.bool p.armed), (.int .i64 p.left), (.int .i64 p.uses)] 101 (0, 0))] ⊆ R) : Calls Try.prog 58 #[(.pointer (some ⟨pb, 0, none⟩))] w fun e w' => e = .returned (.int .i64 p.uses) ∧ Has E w' [R] :=
  Calls.inside (Q := fun e => e = .returned (.int .i64 p.uses)) hH (by simp) hs fun R' H => puses_c H
theorem new_wI {E w : World} {R : List Hp} (hH : Has E w [R]) {pb : Nat} {a : Int} (ha : 1 ≤ a ∧ a ≤ 4096) :
    Calls Try.prog 23 #[(.pointer (some ⟨pb, 0, none⟩)), (.int .i64 a)] w fun e w' => ∃ db sg, e = .returned (.pointer (some ⟨db, 0, none⟩)) ∧ DevAt pb sg db (List.replicate a.toNat blankS) [] ∧ Has E w' [sg, R] := by
  obtain ⟨n, rfl⟩ : ∃ n : Nat, a = (n : Int) := ⟨a.toNat, by omega⟩
  rw [Int.toNat_natCast]
  exact new_w hH (pb := pb) (n := n) ⟨by omega, by omega⟩
theorem begin_cI {E w : World} {R : List Hp} (hH : Has E w [R]) {a : Int} (ha : 1 ≤ a ∧ a ≤ 4096) :
    Calls Try.prog 54 #[(.int .i64 a)] w fun e w' => ∃ qm v1 h1 v2 h2, e = .returned (.pointer (some ⟨qm, 0, none⟩)) ∧ Own 9 1 v1 (List.replicate a.toNat blankS).length ((List.replicate a.toNat blankS).map sV) h1 ∧ Own 9 1 v2 (List.replicate a.toNat blankS).length ((List.replicate a.toNat blankS).map sV) h2 ∧ Has E w' [h1, h2, [Hp.one qm (.cells #[v1, v2, (.slice none 0 0)] 189 (0, 0))], R] := by
  obtain ⟨n, rfl⟩ : ∃ n : Nat, a = (n : Int) := ⟨a.toNat, by omega⟩
  rw [Int.toNat_natCast]
  exact begin_c hH (n := n) (by omega)
end Go.Q
