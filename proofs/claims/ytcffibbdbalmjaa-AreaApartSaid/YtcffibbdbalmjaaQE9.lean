/-
  Parts of a walk: what functions of the program compute, each told by a theorem.
-/
import Derived.Test.YtcffibbdbalmjaaQE8
import Derived.Test.YtcffibbdbalmjaaQIn
set_option linter.unusedVariables false
set_option linter.unusedSimpArgs false
namespace Go.Q
open Go.Proofs
set_option linter.unusedVariables false
set_option maxRecDepth 100000
attribute [local irreducible] wpList OK Code.wp
theorem dev_nodup {E w : World} {sg : List Hp} {pb db : Nat} {p : Pw} {la : List Bs} {lo : List (Int × Bs)} {ss : List (List Hp)} (hd : DevAt pb sg db la lo) (H : Has E w (sg :: [Hp.one pb (.cells #[(.bool p.off), (.bool p.armed), (.int .i64 p.left), (.int .i64 p.uses)] 101 (0, 0))] :: ss)) : (sg ++ [Hp.one pb (.cells #[(.bool p.off), (.bool p.armed), (.int .i64 p.left), (.int .i64 p.uses)] 101 (0, 0))]).Nodup := by
  obtain ⟨v, hL, mb, es, c, rfl, ho, hm⟩ := hd
  exact ((ho.full.app ((Full.one _ _).app (Full.one _ _))).app (Full.one _ _)).nodup H.close2
theorem sectors_r {E w : World} {R sg : List Hp} {pb db : Nat} {p : Pw} {la : List Bs} {lo : List (Int × Bs)} (hH : Has E w [R]) (hd : DevAt pb sg db la lo) (hnd : (sg ++ [Hp.one pb (.cells #[(.bool p.off), (.bool p.armed), (.int .i64 p.left), (.int .i64 p.uses)] 101 (0, 0))]).Nodup) (hsu : (sg ++ [Hp.one pb (.cells #[(.bool p.off), (.bool p.armed), (.int .i64 p.left), (.int .i64 p.uses)] 101 (0, 0))]) ⊆ R) :
    Calls Try.prog 61 #[(.pointer (some ⟨db, 0, none⟩))] w fun e w' => e = .returned (.int .i64 ((la.length : Nat) : Int)) ∧ Has E w' [R] :=
  Calls.inside (Q := fun e => e = .returned (.int .i64 ((la.length : Nat) : Int))) hH hnd hsu fun R' H => ((sectors_d H.open2 hd ).mono fun e w' ⟨he, h⟩ => ⟨he, h.close2⟩)
theorem don_r {E w : World} {R sg : List Hp} {pb db : Nat} {p : Pw} {la : List Bs} {lo : List (Int × Bs)} (hH : Has E w [R]) (hd : DevAt pb sg db la lo) (hnd : (sg ++ [Hp.one pb (.cells #[(.bool p.off), (.bool p.armed), (.int .i64 p.left), (.int .i64 p.uses)] 101 (0, 0))]).Nodup) (hsu : (sg ++ [Hp.one pb (.cells #[(.bool p.off), (.bool p.armed), (.int .i64 p.left), (.int .i64 p.uses)] 101 (0, 0))]) ⊆ R) :
    Calls Try.prog 62 #[(.pointer (some ⟨db, 0, none⟩))] w fun e w' => e = .returned (.bool (!p.off)) ∧ Has E w' [R] :=
  Calls.inside (Q := fun e => e = .returned (.bool (!p.off))) hH hnd hsu fun R' H => ((don_d H.open2 hd ).mono fun e w' ⟨he, h⟩ => ⟨he, h.close2⟩)
theorem duses_r {E w : World} {R sg : List Hp} {pb db : Nat} {p : Pw} {la : List Bs} {lo : List (Int × Bs)} (hH : Has E w [R]) (hd : DevAt pb sg db la lo) (hnd : (sg ++ [Hp.one pb (.cells #[(.bool p.off), (.bool p.armed), (.int .i64 p.left), (.int .i64 p.uses)] 101 (0, 0))]).Nodup) (hsu : (sg ++ [Hp.one pb (.cells #[(.bool p.off), (.bool p.armed), (.int .i64 p.left), (.int .i64 p.uses)] 101 (0, 0))]) ⊆ R) :
    Calls Try.prog 63 #[(.pointer (some ⟨db, 0, none⟩))] w fun e w' => e = .returned (.int .i64 p.uses) ∧ Has E w' [R] :=
  Calls.inside (Q := fun e => e = .returned (.int .i64 p.uses)) hH hnd hsu fun R' H => ((duses_d H.open2 hd ).mono fun e w' ⟨he, h⟩ => ⟨he, h.close2⟩)
theorem loose_r {E w : World} {R sg : List Hp} {pb db : Nat} {p : Pw} {la : List Bs} {lo : List (Int × Bs)} (hH : Has E w [R]) (hd : DevAt pb sg db la lo) (hnd : (sg ++ [Hp.one pb (.cells #[(.bool p.off), (.bool p.armed), (.int .i64 p.left), (.int .i64 p.uses)] 101 (0, 0))]).Nodup) (hsu : (sg ++ [Hp.one pb (.cells #[(.bool p.off), (.bool p.armed), (.int .i64 p.left), (.int .i64 p.uses)] 101 (0, 0))]) ⊆ R) (hlo : LoOk lo la.length) (hla : la.length ≤ 4096) :
    Calls Try.prog 35 #[(.pointer (some ⟨db, 0, none⟩))] w fun e w' => ∃ v' hs', (e = .returned v' ∧ Own 3 1 v' (keysS lo).length ((keysS lo).map iV) hs') ∧ Has E w' [hs', R] :=
  Calls.insideM (Q := fun e v' hs' => e = .returned v' ∧ Own 3 1 v' (keysS lo).length ((keysS lo).map iV) hs') hH hnd hsu fun R' H => ((loose_d H.open2 hd hlo hla).mono fun e w' ⟨v', hs', he, ho, h⟩ => ⟨v', hs', ⟨he, ho⟩, h.close2'⟩)
theorem read_r {E w : World} {R sg : List Hp} {pb db : Nat} {p : Pw} {la : List Bs} {lo : List (Int × Bs)} (hH : Has E w [R]) (hd : DevAt pb sg db la lo) (hnd : (sg ++ [Hp.one pb (.cells #[(.bool p.off), (.bool p.armed), (.int .i64 p.left), (.int .i64 p.uses)] 101 (0, 0))]).Nodup) (hsu : (sg ++ [Hp.one pb (.cells #[(.bool p.off), (.bool p.armed), (.int .i64 p.left), (.int .i64 p.uses)] 101 (0, 0))]) ⊆ R) (n : Int) :
    Calls Try.prog 33 #[(.pointer (some ⟨db, 0, none⟩)), (.int .i64 n)] w fun e w' => e = .returned (.tuple #[S (readS p la lo n), .int .i64 (readE p la n)]) ∧ Has E w' [R] :=
  Calls.inside (Q := fun e => e = .returned (.tuple #[S (readS p la lo n), .int .i64 (readE p la n)])) hH hnd hsu fun R' H => ((read_d H.open2 hd n).mono fun e w' ⟨he, h⟩ => ⟨he, h.close2⟩)
theorem lasts_r {E w : World} {R sg : List Hp} {pb db : Nat} {p : Pw} {la : List Bs} {lo : List (Int × Bs)} (hH : Has E w [R]) (hd : DevAt pb sg db la lo) (hnd : (sg ++ [Hp.one pb (.cells #[(.bool p.off), (.bool p.armed), (.int .i64 p.left), (.int .i64 p.uses)] 101 (0, 0))]).Nodup) (hsu : (sg ++ [Hp.one pb (.cells #[(.bool p.off), (.bool p.armed), (.int .i64 p.left), (.int .i64 p.uses)] 101 (0, 0))]) ⊆ R) (n : Int) :
    Calls Try.prog 51 #[(.pointer (some ⟨db, 0, none⟩)), (.int .i64 n)] w fun e w' => e = .returned (S (lastsS la n)) ∧ Has E w' [R] :=
  Calls.inside (Q := fun e => e = .returned (S (lastsS la n))) hH hnd hsu fun R' H => ((lasts_d H.open2 hd n).mono fun e w' ⟨he, h⟩ => ⟨he, h.close2⟩)
end Go.Q
