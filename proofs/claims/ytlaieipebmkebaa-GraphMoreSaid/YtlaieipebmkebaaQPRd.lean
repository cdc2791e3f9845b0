/-
  Parts of a walk: what functions of the program compute, each told by a theorem.
-/
import Derived.Test.YtlaieipebmkebaaQY
import Derived.Test.YtlaieipebmkebaaQPBase
set_option linter.unusedVariables false
set_option linter.unusedSimpArgs false
namespace Go.Q
open Go.Proofs
set_option linter.unusedVariables false
set_option maxRecDepth 100000
attribute [local irreducible] wpList OK Code.wp
theorem rd_edge {H : Type} {enc : TypeId × Value → H} {w : World} {cs : List Value} (h : Rd enc Try.prog w 42 cs) : ∃ a : Int × Int, cs = tmC a ∧ True := by
  obtain ⟨hl, hf⟩ := rd_struct Try.underlying42 h
  have hl : cs.length = 2 := hl.trans (by kernel_rfl)
  obtain ⟨c0, c1, rfl⟩ : ∃ c0 c1, cs = [c0, c1] := by
    match cs, hl with
    | [c0, c1], _ => exact ⟨c0, c1, rfl⟩
  have f0 : Rd enc Try.prog w 3 [c0] := rd_field (i := 0) (k := 1) hf rfl rfl (by kernel_rfl) rfl
  obtain ⟨n0, e0, b0⟩ := rd_i64 Try.underlying3 f0
  obtain rfl := (List.cons.inj e0).1
  have f1 : Rd enc Try.prog w 3 [c1] := rd_field (i := 1) (k := 1) hf rfl rfl (by kernel_rfl) rfl
  obtain ⟨n1, e1, b1⟩ := rd_i64 Try.underlying3 f1
  obtain rfl := (List.cons.inj e1).1
  exact ⟨(n0, n1), rfl, trivial⟩
theorem rd_edges {H : Type} {enc : TypeId × Value → H} {w : World} {cs : List Value} (h : Rd enc Try.prog w 22 cs) : ∃ (v : Value) (l : List (Int × Int)), cs = [v] ∧ Sl [Hp.of w] 2 v l.length (l.flatMap tmC) ∧ ∀ a ∈ l, True :=
  rd_rows Try.underlying22 (by kernel_rfl) (by decide) tmC_len (fun r hr => rd_edge hr) h
end Go.Q
