/-
  Parts of a walk: what functions of the program compute, each told by a theorem.
-/
import Derived.Test.YtagicdbeacmffaaDoorQV6
set_option linter.unusedVariables false
set_option linter.unusedSimpArgs false
namespace Go.Q
open Go.Proofs
set_option linter.unusedVariables false
set_option maxRecDepth 100000
attribute [local irreducible] wpList OK Code.wp
theorem make1_c {E w : World} {R : List Hp} (hH : Has E w [R]) (hg : CellsAt R 0 0 nibV) (f : Fr) (hfl : f.data.length ≤ 9223372036854775807) :
    Calls Tryd.prog 26 #[(.agg #[(.int .i64 f.ep), (.int .i64 f.pl), (.int .i64 f.gsn), (S f.data)]), (.slice none 0 0)] w fun e w' => e = .returned (S (makeS f)) ∧ Has E w' [R] := by
  have h := make_c hH hg f hfl (v := .slice none 0 0) (l := []) (sl_nil 1) (by simp) (by simp) (by simpa using hfl)
  have e : (Fr.mk f.ep f.pl f.gsn (f.data ++ ([] : List (List UInt8)).flatten)) = f := by simp
  rw [e] at h
  exact h
set_option maxHeartbeats 4000000 in
theorem refmake_c {E w : World} {R : List Hp} (hH : Has E w [R]) (f : Fr) (hfl : f.data.length ≤ 9223372036854775807) (hr : rightS f = true) :
    Calls Tryd.prog 34 #[(.agg #[(.int .i64 f.ep), (.int .i64 f.pl), (.int .i64 f.gsn), (S f.data)])] w fun e w' => e = .returned (S (makeS f)) ∧ Has E w' [R] := by
  obtain ⟨hr1, hr2, hr3, hr4, hr5, hr6, hr7⟩ := rightS_of hr
  refine c_enter (args := [(.agg #[(.int .i64 f.ep), (.int .i64 f.pl), (.int .i64 f.gsn), (S f.data)])]) Tryd.func34 rfl Tryd.ntmps34 (by simp) ?_
  refine wp_seq_k fun K1 hK1 => ?_
  refine c_region ?_
  refine s_op (o_box (cs := #[(.int .i64 f.ep), (.int .i64 f.pl), (.int .i64 f.gsn), (S f.data)]) rfl rfl hH fun b2 w3 hH4 => ?_)
  refine s_op (o_assign (v := (S ([] : List UInt8))) rfl ?_)
  refine s_nil ?_
  refine t_norm (hK1 _ _ ?_)
  refine wp_seq_k fun K5 hK5 => ?_
  refine c_flow [[Hp.one b2 (.cells #[(.int .i64 f.ep), (.int .i64 f.pl), (.int .i64 f.gsn), (S f.data)] 43 (0, 0))], R] (fun i_ => match i_ with | _ => []) (fun i_ v_ h_ => match i_ with | 0 => v_ = (.pointer (some ⟨b2, 3, none⟩)) ∧ h_ = [] | 1 => v_ = (S f.data) ∧ h_ = [] | 2 => v_ = (.int .i64 (f.data.length : Int)) ∧ h_ = [] | 3 => v_ = (S (beFrom (f.data.length : Int) 1)) ∧ h_ = [] | 4 => v_ = (.pointer (some ⟨b2, 0, none⟩)) ∧ h_ = [] | 5 => v_ = (.int .i64 f.ep) ∧ h_ = [] | 6 => v_ = (S (beFrom f.ep 4)) ∧ h_ = [] | 7 => v_ = (S ((beFrom (f.data.length : Int) 1) ++ (beFrom f.ep 4))) ∧ h_ = [] | 8 => v_ = (.pointer (some ⟨b2, 1, none⟩)) ∧ h_ = [] | 9 => v_ = (.int .i64 f.pl) ∧ h_ = [] | 10 => v_ = (S (beFrom f.pl 8)) ∧ h_ = [] | 11 => v_ = (S (((beFrom (f.data.length : Int) 1) ++ (beFrom f.ep 4)) ++ (beFrom f.pl 8))) ∧ h_ = [] | 12 => v_ = (.pointer (some ⟨b2, 2, none⟩)) ∧ h_ = [] | 13 => v_ = (.int .i64 f.gsn) ∧ h_ = [] | 14 => v_ = (S (beFrom f.gsn 8)) ∧ h_ = [] | 15 => v_ = (S ((((beFrom (f.data.length : Int) 1) ++ (beFrom f.ep 4)) ++ (beFrom f.pl 8)) ++ (beFrom f.gsn 8))) ∧ h_ = [] | 16 => v_ = (.pointer (some ⟨b2, 3, none⟩)) ∧ h_ = [] | 17 => v_ = (S f.data) ∧ h_ = [] | 18 => v_ = (S (((((beFrom (f.data.length : Int) 1) ++ (beFrom f.ep 4)) ++ (beFrom f.pl 8)) ++ (beFrom f.gsn 8)) ++ f.data)) ∧ h_ = [] | 19 => v_ = (S (((((beFrom (f.data.length : Int) 1) ++ (beFrom f.ep 4)) ++ (beFrom f.pl 8)) ++ (beFrom f.gsn 8)) ++ f.data)) ∧ h_ = [] | _ => True) mixed (by kernel_rfl) (flow_has (cs := []) hH4 rfl) ?_ ?_
  · intro i_ o_ ho_ r' w' G hs_ ht
    match i_, ho_ with
    | 0, ho_ =>
      obtain rfl := Option.some.inj ho_
      have e1 : r' 1 = (.pointer (some ⟨b2, 0, none⟩)) := ht.was 1 (by kernel_rfl)
      have hG := ht.has.drop
      refine o_fieldAddr (k := 3) (fun _ => by kernel_rfl) e1 ?_
      exact ⟨_, ⟨rfl, rfl⟩, hG⟩
    | 1, ho_ =>
      obtain rfl := Option.some.inj ho_
      obtain ⟨e4, eh0⟩ := (ht.done 0 _ rfl rfl).1
      have hG := ht.has.drop
      refine o_load1 (v := (S f.data)) Tryd.underlying9 rfl e4 hG (ht.fr [Hp.one b2 (.cells #[(.int .i64 f.ep), (.int .i64 f.pl), (.int .i64 f.gsn), (S f.data)] 43 (0, 0))] (by simp)) (CellsAt.one rfl) ?_
      exact ⟨_, ⟨rfl, rfl⟩, hG⟩
    | 2, ho_ =>
      obtain rfl := Option.some.inj ho_
      obtain ⟨e5, eh1⟩ := (ht.done 1 _ rfl rfl).1
      have hG := ht.has.drop
      refine o_slen Tryd.underlying9 e5 ?_
      exact ⟨_, ⟨rfl, rfl⟩, hG⟩
    | 3, ho_ =>
      obtain rfl := Option.some.inj ho_
      obtain ⟨e6, eh2⟩ := (ht.done 2 _ rfl rfl).1
      have hG := ht.has.drop
      refine o_callf (vs := #[(.int .i64 1), (.int .i64 (f.data.length : Int))]) ca41 rfl (args2 rfl e6) (rlaid_c hG.all 1 (by decide) (f.data.length : Int) (by omega) (fits_head hr).1) ?_
      rintro _ w8 ⟨rfl, hX6⟩
      refine ⟨_, rfl, ?_⟩
      have hH7 := hX6.of_all
      exact ⟨_, ⟨rfl, rfl⟩, hH7⟩
    | 4, ho_ =>
      obtain rfl := Option.some.inj ho_
      have e1 : r' 1 = (.pointer (some ⟨b2, 0, none⟩)) := ht.was 1 (by kernel_rfl)
      have hG := ht.has.drop
      refine o_fieldAddr (k := 0) (fun _ => by kernel_rfl) e1 ?_
      exact ⟨_, ⟨rfl, rfl⟩, hG⟩
    | 5, ho_ =>
      obtain rfl := Option.some.inj ho_
      obtain ⟨e8, eh4⟩ := (ht.done 4 _ rfl rfl).1
      have hG := ht.has.drop
      refine o_load1 (v := (.int .i64 f.ep)) Tryd.underlying3 rfl e8 hG (ht.fr [Hp.one b2 (.cells #[(.int .i64 f.ep), (.int .i64 f.pl), (.int .i64 f.gsn), (S f.data)] 43 (0, 0))] (by simp)) (CellsAt.one rfl) ?_
      exact ⟨_, ⟨rfl, rfl⟩, hG⟩
    | 6, ho_ =>
      obtain rfl := Option.some.inj ho_
      obtain ⟨e9, eh5⟩ := (ht.done 5 _ rfl rfl).1
      have hG := ht.has.drop
      refine o_callf (vs := #[(.int .i64 4), (.int .i64 f.ep)]) ca41 rfl (args2 rfl e9) (rlaid_c hG.all 4 (by decide) f.ep (by omega) (fits_head hr).2.1) ?_
      rintro _ w11 ⟨rfl, hX9⟩
      refine ⟨_, rfl, ?_⟩
      have hH10 := hX9.of_all
      exact ⟨_, ⟨rfl, rfl⟩, hH10⟩
    | 7, ho_ =>
      obtain rfl := Option.some.inj ho_
      obtain ⟨e7, eh3⟩ := (ht.done 3 _ rfl rfl).1
      obtain ⟨e10, eh6⟩ := (ht.done 6 _ rfl rfl).1
      have hG := ht.has.drop
      refine o_sadd e7 e10 (by simp only [List.length_append, beFrom_length, laidS_len]; omega) ?_
      exact ⟨_, ⟨rfl, rfl⟩, hG⟩
    | 8, ho_ =>
      obtain rfl := Option.some.inj ho_
      have e1 : r' 1 = (.pointer (some ⟨b2, 0, none⟩)) := ht.was 1 (by kernel_rfl)
      have hG := ht.has.drop
      refine o_fieldAddr (k := 1) (fun _ => by kernel_rfl) e1 ?_
      exact ⟨_, ⟨rfl, rfl⟩, hG⟩
    | 9, ho_ =>
      obtain rfl := Option.some.inj ho_
      obtain ⟨e12, eh8⟩ := (ht.done 8 _ rfl rfl).1
      have hG := ht.has.drop
      refine o_load1 (v := (.int .i64 f.pl)) Tryd.underlying3 rfl e12 hG (ht.fr [Hp.one b2 (.cells #[(.int .i64 f.ep), (.int .i64 f.pl), (.int .i64 f.gsn), (S f.data)] 43 (0, 0))] (by simp)) (CellsAt.one rfl) ?_
      exact ⟨_, ⟨rfl, rfl⟩, hG⟩
    | 10, ho_ =>
      obtain rfl := Option.some.inj ho_
      obtain ⟨e13, eh9⟩ := (ht.done 9 _ rfl rfl).1
      have hG := ht.has.drop
      refine o_callf (vs := #[(.int .i64 8), (.int .i64 f.pl)]) ca41 rfl (args2 rfl e13) (rlaid_c hG.all 8 (by decide) f.pl (by omega) (fits_head hr).2.2.1) ?_
      rintro _ w14 ⟨rfl, hX12⟩
      refine ⟨_, rfl, ?_⟩
      have hH13 := hX12.of_all
      exact ⟨_, ⟨rfl, rfl⟩, hH13⟩
    | 11, ho_ =>
      obtain rfl := Option.some.inj ho_
      obtain ⟨e11, eh7⟩ := (ht.done 7 _ rfl rfl).1
      obtain ⟨e14, eh10⟩ := (ht.done 10 _ rfl rfl).1
      have hG := ht.has.drop
      refine o_sadd e11 e14 (by simp only [List.length_append, beFrom_length, laidS_len]; omega) ?_
      exact ⟨_, ⟨rfl, rfl⟩, hG⟩
    | 12, ho_ =>
      obtain rfl := Option.some.inj ho_
      have e1 : r' 1 = (.pointer (some ⟨b2, 0, none⟩)) := ht.was 1 (by kernel_rfl)
      have hG := ht.has.drop
      refine o_fieldAddr (k := 2) (fun _ => by kernel_rfl) e1 ?_
      exact ⟨_, ⟨rfl, rfl⟩, hG⟩
    | 13, ho_ =>
      obtain rfl := Option.some.inj ho_
      obtain ⟨e16, eh12⟩ := (ht.done 12 _ rfl rfl).1
      have hG := ht.has.drop
      refine o_load1 (v := (.int .i64 f.gsn)) Tryd.underlying3 rfl e16 hG (ht.fr [Hp.one b2 (.cells #[(.int .i64 f.ep), (.int .i64 f.pl), (.int .i64 f.gsn), (S f.data)] 43 (0, 0))] (by simp)) (CellsAt.one rfl) ?_
      exact ⟨_, ⟨rfl, rfl⟩, hG⟩
    | 14, ho_ =>
      obtain rfl := Option.some.inj ho_
      obtain ⟨e17, eh13⟩ := (ht.done 13 _ rfl rfl).1
      have hG := ht.has.drop
      refine o_callf (vs := #[(.int .i64 8), (.int .i64 f.gsn)]) ca41 rfl (args2 rfl e17) (rlaid_c hG.all 8 (by decide) f.gsn (by omega) (fits_head hr).2.2.2) ?_
      rintro _ w17 ⟨rfl, hX15⟩
      refine ⟨_, rfl, ?_⟩
      have hH16 := hX15.of_all
      exact ⟨_, ⟨rfl, rfl⟩, hH16⟩
    | 15, ho_ =>
      obtain rfl := Option.some.inj ho_
      obtain ⟨e15, eh11⟩ := (ht.done 11 _ rfl rfl).1
      obtain ⟨e18, eh14⟩ := (ht.done 14 _ rfl rfl).1
      have hG := ht.has.drop
      refine o_sadd e15 e18 (by simp only [List.length_append, beFrom_length, laidS_len]; omega) ?_
      exact ⟨_, ⟨rfl, rfl⟩, hG⟩
    | 16, ho_ =>
      obtain rfl := Option.some.inj ho_
      have e1 : r' 1 = (.pointer (some ⟨b2, 0, none⟩)) := ht.was 1 (by kernel_rfl)
      have hG := ht.has.drop
      refine o_fieldAddr (k := 3) (fun _ => by kernel_rfl) e1 ?_
      exact ⟨_, ⟨rfl, rfl⟩, hG⟩
    | 17, ho_ =>
      obtain rfl := Option.some.inj ho_
      obtain ⟨e20, eh16⟩ := (ht.done 16 _ rfl rfl).1
      have hG := ht.has.drop
      refine o_load1 (v := (S f.data)) Tryd.underlying9 rfl e20 hG (ht.fr [Hp.one b2 (.cells #[(.int .i64 f.ep), (.int .i64 f.pl), (.int .i64 f.gsn), (S f.data)] 43 (0, 0))] (by simp)) (CellsAt.one rfl) ?_
      exact ⟨_, ⟨rfl, rfl⟩, hG⟩
    | 18, ho_ =>
      obtain rfl := Option.some.inj ho_
      obtain ⟨e19, eh15⟩ := (ht.done 15 _ rfl rfl).1
      obtain ⟨e21, eh17⟩ := (ht.done 17 _ rfl rfl).1
      have hG := ht.has.drop
      refine o_sadd e19 e21 (by simp only [List.length_append, beFrom_length, laidS_len]; omega) ?_
      exact ⟨_, ⟨rfl, rfl⟩, hG⟩
    | 19, ho_ =>
      obtain rfl := Option.some.inj ho_
      obtain ⟨e22, eh18⟩ := (ht.done 18 _ rfl rfl).1
      have hG := ht.has.drop
      refine o_assign (v := (S (((((beFrom (f.data.length : Int) 1) ++ (beFrom f.ep 4)) ++ (beFrom f.pl 8)) ++ (beFrom f.gsn 8)) ++ f.data))) e22 ?_
      exact ⟨_, ⟨rfl, rfl⟩, hG⟩
    | i_ + 20, ho_ => exact absurd ho_ (by simp)
  · intro vs18 hs19 w20 hT21 hH22
    obtain ⟨e0_, eh0_⟩ := hT21 0 _ rfl
    obtain ⟨e1_, eh1_⟩ := hT21 1 _ rfl
    obtain ⟨e2_, eh2_⟩ := hT21 2 _ rfl
    obtain ⟨e3_, eh3_⟩ := hT21 3 _ rfl
    obtain ⟨e4_, eh4_⟩ := hT21 4 _ rfl
    obtain ⟨e5_, eh5_⟩ := hT21 5 _ rfl
    obtain ⟨e6_, eh6_⟩ := hT21 6 _ rfl
    obtain ⟨e7_, eh7_⟩ := hT21 7 _ rfl
    obtain ⟨e8_, eh8_⟩ := hT21 8 _ rfl
    obtain ⟨e9_, eh9_⟩ := hT21 9 _ rfl
    obtain ⟨e10_, eh10_⟩ := hT21 10 _ rfl
    obtain ⟨e11_, eh11_⟩ := hT21 11 _ rfl
    obtain ⟨e12_, eh12_⟩ := hT21 12 _ rfl
    obtain ⟨e13_, eh13_⟩ := hT21 13 _ rfl
    obtain ⟨e14_, eh14_⟩ := hT21 14 _ rfl
    obtain ⟨e15_, eh15_⟩ := hT21 15 _ rfl
    obtain ⟨e16_, eh16_⟩ := hT21 16 _ rfl
    obtain ⟨e17_, eh17_⟩ := hT21 17 _ rfl
    obtain ⟨e18_, eh18_⟩ := hT21 18 _ rfl
    obtain ⟨e19_, eh19_⟩ := hT21 19 _ rfl
    have hH23 : Has E w20 ([[Hp.one b2 (.cells #[(.int .i64 f.ep), (.int .i64 f.pl), (.int .i64 f.gsn), (S f.data)] 43 (0, 0))], R] ++ []) := flow_back (cs := []) hH22 (by show (hs19 0 ++ (hs19 1 ++ (hs19 2 ++ (hs19 3 ++ (hs19 4 ++ (hs19 5 ++ (hs19 6 ++ (hs19 7 ++ (hs19 8 ++ (hs19 9 ++ (hs19 10 ++ (hs19 11 ++ (hs19 12 ++ (hs19 13 ++ (hs19 14 ++ (hs19 15 ++ (hs19 16 ++ (hs19 17 ++ (hs19 18 ++ (hs19 19 ++ [])))))))))))))))))))) = _; rw [eh0_, eh1_, eh2_, eh3_, eh4_, eh5_, eh6_, eh7_, eh8_, eh9_, eh10_, eh11_, eh12_, eh13_, eh14_, eh15_, eh16_, eh17_, eh18_, eh19_]; rfl)
    generalize hr25 : puts vs18 _ 0 _ = r24
    have e26_0 : r24 0 = (.agg #[(.int .i64 f.ep), (.int .i64 f.pl), (.int .i64 f.gsn), (S f.data)]) := by rw [← hr25]; exact rfl
    have e26_1 : r24 1 = (.pointer (some ⟨b2, 0, none⟩)) := by rw [← hr25]; exact rfl
    have e26_2 : r24 2 = (S ([] : List UInt8)) := by rw [← hr25]; exact rfl
    have e26_3 : r24 3 = (S (((((beFrom (f.data.length : Int) 1) ++ (beFrom f.ep 4)) ++ (beFrom f.pl 8)) ++ (beFrom f.gsn 8)) ++ f.data)) := by rw [← hr25]; exact e19_
    refine t_norm (hK5 _ _ ?_)
    refine wp_seq_k fun K27 hK27 => ?_
    refine c_region ?_
    refine s_op (o_move (v := (S (((((beFrom (f.data.length : Int) 1) ++ (beFrom f.ep 4)) ++ (beFrom f.pl 8)) ++ (beFrom f.gsn 8)) ++ f.data))) e26_3 ?_)
    refine s_op (o_move (v := (S (((((beFrom (f.data.length : Int) 1) ++ (beFrom f.ep 4)) ++ (beFrom f.pl 8)) ++ (beFrom f.gsn 8)) ++ f.data))) e26_3 ?_)
    refine s_op (o_callf (vs := #[(S (((((beFrom (f.data.length : Int) 1) ++ (beFrom f.ep 4)) ++ (beFrom f.pl 8)) ++ (beFrom f.gsn 8)) ++ f.data))]) ca17 rfl (args1 rfl) (reflaid_c hH23.all (((((beFrom (f.data.length : Int) 1) ++ (beFrom f.ep 4)) ++ (beFrom f.pl 8)) ++ (beFrom f.gsn 8)) ++ f.data) (by simp only [List.length_append, beFrom_length]; omega)) ?_)
    rintro _ w30 ⟨rfl, hX28⟩
    refine ⟨_, rfl, ?_⟩
    have hH29 := hX28.of_all
    refine s_op (o_sadd rfl rfl (by simp only [List.length_append, beFrom_length, laidS_len]; omega) ?_)
    refine s_op (o_assign (v := (S ((((((beFrom (f.data.length : Int) 1) ++ (beFrom f.ep 4)) ++ (beFrom f.pl 8)) ++ (beFrom f.gsn 8)) ++ f.data) ++ (laidS (crcS (((((beFrom (f.data.length : Int) 1) ++ (beFrom f.ep 4)) ++ (beFrom f.pl 8)) ++ (beFrom f.gsn 8)) ++ f.data)))))) rfl ?_)
    refine s_nil ?_
    refine t_norm (hK27 _ _ ?_)
    refine wp_ret ?_
    refine c_ret1 Tryd.results34  (v := (S ((((((beFrom (f.data.length : Int) 1) ++ (beFrom f.ep 4)) ++ (beFrom f.pl 8)) ++ (beFrom f.gsn 8)) ++ f.data) ++ (laidS (crcS (((((beFrom (f.data.length : Int) 1) ++ (beFrom f.ep 4)) ++ (beFrom f.pl 8)) ++ (beFrom f.gsn 8)) ++ f.data)))))) rfl ?_
    have hH31 : Has E w30 [R] := (hH29.front 1 rfl).first 1 rfl
    exact ⟨by rw [makeS_yes hr, sealS]; simp [headS], hH31⟩
end Go.Q
