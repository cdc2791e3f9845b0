/-
  Parts of a walk: what functions of the program compute, each told by a theorem.
-/
import Derived.Test.YtagicdbeacmffaaDoorQYD
import Derived.Test.YtagicdbeacmffaaDoorQVBase
import Derived.Test.YtagicdbeacmffaaDoorQFrame
set_option linter.unusedVariables false
set_option linter.unusedSimpArgs false
namespace Go.Q
open Go.Proofs
set_option linter.unusedVariables false
set_option maxRecDepth 100000
attribute [local irreducible] wpList OK Code.wp
theorem rd_fr43 {H : Type} {enc : TypeId × Value → H} {w : World} {cs : List Value} (h : Rd enc Tryd.prog w 43 cs) : ∃ f : Fr, cs = frC f ∧ f.data.length ≤ 9223372036854775807 ∧ ((-9223372036854775808 : Int) ≤ f.ep ∧ f.ep ≤ 9223372036854775807) ∧ ((-9223372036854775808 : Int) ≤ f.pl ∧ f.pl ≤ 9223372036854775807) ∧ ((-9223372036854775808 : Int) ≤ f.gsn ∧ f.gsn ≤ 9223372036854775807) := by
  obtain ⟨hl, hf⟩ := rd_struct Tryd.underlying43 h
  have hl : cs.length = 4 := hl.trans (by kernel_rfl)
  obtain ⟨c0, c1, c2, c3, rfl⟩ : ∃ c0 c1 c2 c3, cs = [c0, c1, c2, c3] := by
    match cs, hl with
    | [c0, c1, c2, c3], _ => exact ⟨c0, c1, c2, c3, rfl⟩
  have f0 : Rd enc Tryd.prog w 3 [c0] := rd_field (i := 0) (k := 1) hf rfl rfl (by kernel_rfl) rfl
  obtain ⟨n0, e0, b0⟩ := rd_i64 Tryd.underlying3 f0
  obtain rfl := (List.cons.inj e0).1
  have f1 : Rd enc Tryd.prog w 3 [c1] := rd_field (i := 1) (k := 1) hf rfl rfl (by kernel_rfl) rfl
  obtain ⟨n1, e1, b1⟩ := rd_i64 Tryd.underlying3 f1
  obtain rfl := (List.cons.inj e1).1
  have f2 : Rd enc Tryd.prog w 3 [c2] := rd_field (i := 2) (k := 1) hf rfl rfl (by kernel_rfl) rfl
  obtain ⟨n2, e2, b2⟩ := rd_i64 Tryd.underlying3 f2
  obtain rfl := (List.cons.inj e2).1
  have f3 : Rd enc Tryd.prog w 9 [c3] := rd_field (i := 3) (k := 1) hf rfl rfl (by kernel_rfl) rfl
  obtain ⟨n3, e3, b3⟩ := rd_string Tryd.underlying9 f3
  obtain rfl := (List.cons.inj e3).1
  exact ⟨⟨n0, n1, n2, n3⟩, rfl, b3, b0, b1, b2⟩
theorem rd_fr40 {H : Type} {enc : TypeId × Value → H} {w : World} {cs : List Value} (h : Rd enc Tryd.prog w 40 cs) : ∃ f : Fr, cs = frC f ∧ f.data.length ≤ 9223372036854775807 ∧ ((-9223372036854775808 : Int) ≤ f.ep ∧ f.ep ≤ 9223372036854775807) ∧ ((-9223372036854775808 : Int) ≤ f.pl ∧ f.pl ≤ 9223372036854775807) ∧ ((-9223372036854775808 : Int) ≤ f.gsn ∧ f.gsn ≤ 9223372036854775807) := by
  obtain ⟨hl, hf⟩ := rd_struct Tryd.underlying40 h
  have hl : cs.length = 4 := hl.trans (by kernel_rfl)
  obtain ⟨c0, c1, c2, c3, rfl⟩ : ∃ c0 c1 c2 c3, cs = [c0, c1, c2, c3] := by
    match cs, hl with
    | [c0, c1, c2, c3], _ => exact ⟨c0, c1, c2, c3, rfl⟩
  have f0 : Rd enc Tryd.prog w 3 [c0] := rd_field (i := 0) (k := 1) hf rfl rfl (by kernel_rfl) rfl
  obtain ⟨n0, e0, b0⟩ := rd_i64 Tryd.underlying3 f0
  obtain rfl := (List.cons.inj e0).1
  have f1 : Rd enc Tryd.prog w 3 [c1] := rd_field (i := 1) (k := 1) hf rfl rfl (by kernel_rfl) rfl
  obtain ⟨n1, e1, b1⟩ := rd_i64 Tryd.underlying3 f1
  obtain rfl := (List.cons.inj e1).1
  have f2 : Rd enc Tryd.prog w 3 [c2] := rd_field (i := 2) (k := 1) hf rfl rfl (by kernel_rfl) rfl
  obtain ⟨n2, e2, b2⟩ := rd_i64 Tryd.underlying3 f2
  obtain rfl := (List.cons.inj e2).1
  have f3 : Rd enc Tryd.prog w 9 [c3] := rd_field (i := 3) (k := 1) hf rfl rfl (by kernel_rfl) rfl
  obtain ⟨n3, e3, b3⟩ := rd_string Tryd.underlying9 f3
  obtain rfl := (List.cons.inj e3).1
  exact ⟨⟨n0, n1, n2, n3⟩, rfl, b3, b0, b1, b2⟩
end Go.Q
