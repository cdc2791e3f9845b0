/-
  Parts of a walk: what functions of the program compute, each told by a theorem.
-/
import Derived.Test.YtagicdbeacmffaaQT5
set_option linter.unusedVariables false
set_option linter.unusedSimpArgs false
namespace Go.Q
open Go.Proofs
set_option linter.unusedVariables false
set_option maxRecDepth 100000
attribute [local irreducible] wpList OK Code.wp
theorem cpeek_bad {E w : World} {R hs : List Hp} {b m1 m2 c1 c2 : Nat} {hi : Int} {v : Value} {es1 es2 : Array MapEntry} {str : List Int} {pg tx : List (Int × Int)} (hH : Has E w [hs, [Hp.one m1 (.map es1 c1)], [Hp.one m2 (.map es2 c2)], [Hp.one b (.cells #[(.int .i64 hi), v, (.map (some m1)), (.map (some m2))] 75 (0, 0))], R]) (ho : Own 3 1 v str.length (str.map iV) hs) (h1 : MapII es1 pg) (h2 : MapII es2 tx) (hge : ∀ q ∈ str, (0 : Int) ≤ q) (x y z : Int) (hx : ¬ (0 ≤ x ∧ x < (str.length : Int))) :
    Calls Try.prog 18 #[(.pointer (some ⟨b, 0, none⟩)), .int .i64 x, .int .i64 y, .int .i64 z] w fun e w' => e = .returned (.tuple #[.int .i64 0, .int .i64 1]) ∧ Has E w' [hs, [Hp.one m1 (.map es1 c1)], [Hp.one m2 (.map es2 c2)], [Hp.one b (.cells #[(.int .i64 hi), v, (.map (some m1)), (.map (some m2))] 75 (0, 0))], R] :=
  (cpeek_c hH ho h1 h2 hge x y z).mono fun e w' ⟨he, hX⟩ => by rw [if_neg hx] at he; exact ⟨he, hX⟩
theorem cpeek_long {E w : World} {R hs : List Hp} {b m1 m2 c1 c2 : Nat} {hi : Int} {v : Value} {es1 es2 : Array MapEntry} {str : List Int} {pg tx : List (Int × Int)} (hH : Has E w [hs, [Hp.one m1 (.map es1 c1)], [Hp.one m2 (.map es2 c2)], [Hp.one b (.cells #[(.int .i64 hi), v, (.map (some m1)), (.map (some m2))] 75 (0, 0))], R]) (ho : Own 3 1 v str.length (str.map iV) hs) (h1 : MapII es1 pg) (h2 : MapII es2 tx) (hge : ∀ q ∈ str, (0 : Int) ≤ q) (x y z : Int) (hx : 0 ≤ x ∧ x < (str.length : Int)) (hl : 4611686018427387903 ≤ (List.foldl max ((str[x.toNat]?).getD 0) [getI pg y, getI tx z])) :
    Calls Try.prog 18 #[(.pointer (some ⟨b, 0, none⟩)), .int .i64 x, .int .i64 y, .int .i64 z] w fun e w' => e = .returned (.tuple #[.int .i64 0, .int .i64 3]) ∧ Has E w' [hs, [Hp.one m1 (.map es1 c1)], [Hp.one m2 (.map es2 c2)], [Hp.one b (.cells #[(.int .i64 hi), v, (.map (some m1)), (.map (some m2))] 75 (0, 0))], R] :=
  (cpeek_c hH ho h1 h2 hge x y z).mono fun e w' ⟨he, hX⟩ => by rw [if_pos hx, if_pos hl] at he; exact ⟨he, hX⟩
theorem cpeek_ok {E w : World} {R hs : List Hp} {b m1 m2 c1 c2 : Nat} {hi : Int} {v : Value} {es1 es2 : Array MapEntry} {str : List Int} {pg tx : List (Int × Int)} (hH : Has E w [hs, [Hp.one m1 (.map es1 c1)], [Hp.one m2 (.map es2 c2)], [Hp.one b (.cells #[(.int .i64 hi), v, (.map (some m1)), (.map (some m2))] 75 (0, 0))], R]) (ho : Own 3 1 v str.length (str.map iV) hs) (h1 : MapII es1 pg) (h2 : MapII es2 tx) (hge : ∀ q ∈ str, (0 : Int) ≤ q) (x y z : Int) (hx : 0 ≤ x ∧ x < (str.length : Int)) (hl : ¬ 4611686018427387903 ≤ (List.foldl max ((str[x.toNat]?).getD 0) [getI pg y, getI tx z])) :
    Calls Try.prog 18 #[(.pointer (some ⟨b, 0, none⟩)), .int .i64 x, .int .i64 y, .int .i64 z] w fun e w' => e = .returned (.tuple #[.int .i64 ((List.foldl max ((str[x.toNat]?).getD 0) [getI pg y, getI tx z]) + 1), .int .i64 0]) ∧ Has E w' [hs, [Hp.one m1 (.map es1 c1)], [Hp.one m2 (.map es2 c2)], [Hp.one b (.cells #[(.int .i64 hi), v, (.map (some m1)), (.map (some m2))] 75 (0, 0))], R] :=
  (cpeek_c hH ho h1 h2 hge x y z).mono fun e w' ⟨he, hX⟩ => by rw [if_pos hx, if_neg hl] at he; exact ⟨he, hX⟩
end Go.Q
