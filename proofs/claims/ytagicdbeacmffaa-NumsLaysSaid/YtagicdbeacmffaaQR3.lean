/-
  Parts of a walk: what functions of the program compute, each told by a theorem.
-/
import Derived.Test.YtagicdbeacmffaaQR1
import Derived.Test.YtagicdbeacmffaaQR2
import Derived.Test.YtagicdbeacmffaaQN2
import Derived.Test.YtagicdbeacmffaaQN3
set_option linter.unusedVariables false
set_option linter.unusedSimpArgs false
namespace Go.Q
open Go.Proofs
set_option linter.unusedVariables false
set_option maxRecDepth 100000
attribute [local irreducible] wpList OK Code.wp
theorem put_z {E w : World} {R : List Hp} (hH : Has E w [R]) (z : Int) {v : Value} {l : List Int} (hv : Ints R v l) (hl : l.length ≤ 1000000) :
    Calls Try.prog 26 #[.int .i64 z, v] w fun e w' => e = .returned (S (putS z.toNat l)) ∧ Has E w' [R] := by
  rcases (by omega : z < 0 ∨ 0 ≤ z) with h | h
  · exact putN_c hH z h hv
  · obtain ⟨m, rfl⟩ : ∃ m : Nat, z = m := ⟨z.toNat, by omega⟩
    exact put_c hH m hv hl
theorem take_z {E w : World} {R : List Hp} (hH : Has E w [R]) (z : Int) (s : List UInt8) (hs : s.length ≤ 9223372036854775807) :
    Calls Try.prog 29 #[S s, .int .i64 z] w fun e w' => e = .returned (.tuple #[.int .i64 (takeS s z.toNat).1, S (takeS s z.toNat).2.1, .bool (takeS s z.toNat).2.2]) ∧ Has E w' [R] := by
  rcases (by omega : z < 0 ∨ 0 ≤ z) with h | h
  · exact takeN_c hH z h s
  · obtain ⟨m, rfl⟩ : ∃ m : Nat, z = m := ⟨z.toNat, by omega⟩
    exact take_c hH m s hs
theorem refTake_z {E w : World} {R : List Hp} (hH : Has E w [R]) (z : Int) (s : List UInt8) (hs : s.length ≤ 9223372036854775807) :
    Calls Try.prog 30 #[S s, .int .i64 z] w fun e w' => e = .returned (.tuple #[.int .i64 (takeS s z.toNat).1, .bool (takeS s z.toNat).2.2]) ∧ Has E w' [R] := by
  rcases (by omega : z < 0 ∨ 0 ≤ z) with h | h
  · exact refTakeN_c hH z h s
  · obtain ⟨m, rfl⟩ : ∃ m : Nat, z = m := ⟨z.toNat, by omega⟩
    exact refTake_c hH m s hs
theorem refPut_z {E w : World} {R : List Hp} (hH : Has E w [R]) (z : Int) (hz : 1 ≤ z ∧ z ≤ 8) (n : Int) (hn : -9223372036854775808 ≤ n ∧ n ≤ 9223372036854775807) :
    Calls Try.prog 28 #[.int .i64 z, .int .i64 n] w fun e w' => ∃ t : List UInt8, e = .returned (.tuple #[S t, .bool (fitsS n z.toNat)]) ∧ t.length = z.toNat ∧ (fitsS n z.toNat = true → t = beFrom n z.toNat) ∧ Has E w' [R] := by
  obtain ⟨m, rfl⟩ : ∃ m : Nat, z = m := ⟨z.toNat, by omega⟩
  exact refPut_c hH m (by omega) n hn
end Go.Q
