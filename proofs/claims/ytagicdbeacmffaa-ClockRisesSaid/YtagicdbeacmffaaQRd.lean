/-
  Parts of a walk: what functions of the program compute, each told by a theorem.
-/
import Derived.Test.YtagicdbeacmffaaQY
import Derived.Test.YtagicdbeacmffaaQBase
set_option linter.unusedVariables false
set_option linter.unusedSimpArgs false
namespace Go.Q
open Go.Proofs
set_option linter.unusedVariables false
set_option maxRecDepth 100000
attribute [local irreducible] wpList OK Code.wp
theorem rd_act {H : Type} {enc : TypeId × Value → H} {w : World} {cs : List Value} (h : Rd enc Try.prog w 30 cs) : ∃ a : ActL, cs = actC a ∧ ActOk [Hp.of w] a := by
  obtain ⟨hl, hf⟩ := rd_struct Try.underlying30 h
  have hl : cs.length = 6 := hl.trans (by kernel_rfl)
  obtain ⟨c0, c1, c2, c3, c4, c5, rfl⟩ : ∃ c0 c1 c2 c3 c4 c5, cs = [c0, c1, c2, c3, c4, c5] := by
    match cs, hl with
    | [c0, c1, c2, c3, c4, c5], _ => exact ⟨c0, c1, c2, c3, c4, c5, rfl⟩
  have f0 : Rd enc Try.prog w 3 [c0] := rd_field (i := 0) (k := 1) hf rfl rfl (by kernel_rfl) rfl
  obtain ⟨n0, e0, b0⟩ := rd_i64 Try.underlying3 f0
  obtain rfl := (List.cons.inj e0).1
  have f1 : Rd enc Try.prog w 3 [c1] := rd_field (i := 1) (k := 1) hf rfl rfl (by kernel_rfl) rfl
  obtain ⟨n1, e1, b1⟩ := rd_i64 Try.underlying3 f1
  obtain rfl := (List.cons.inj e1).1
  have f2 : Rd enc Try.prog w 3 [c2] := rd_field (i := 2) (k := 1) hf rfl rfl (by kernel_rfl) rfl
  obtain ⟨n2, e2, b2⟩ := rd_i64 Try.underlying3 f2
  obtain rfl := (List.cons.inj e2).1
  have f3 : Rd enc Try.prog w 3 [c3] := rd_field (i := 3) (k := 1) hf rfl rfl (by kernel_rfl) rfl
  obtain ⟨n3, e3, b3⟩ := rd_i64 Try.underlying3 f3
  obtain rfl := (List.cons.inj e3).1
  have f4 : Rd enc Try.prog w 3 [c4] := rd_field (i := 4) (k := 1) hf rfl rfl (by kernel_rfl) rfl
  obtain ⟨n4, e4, b4⟩ := rd_i64 Try.underlying3 f4
  obtain rfl := (List.cons.inj e4).1
  have f5 : Rd enc Try.prog w 28 [c5] := rd_field (i := 5) (k := 1) hf rfl rfl (by kernel_rfl) rfl
  obtain ⟨u5, n5, e5, s5, b5⟩ := rd_ints Try.underlying28 Try.underlying3 (by kernel_rfl) f5
  obtain rfl := (List.cons.inj e5).1
  exact ⟨⟨n0, n1, n2, n3, n4, _, n5⟩, rfl, fun x hx => by
    simp only [List.mem_cons, List.not_mem_nil, or_false] at hx
    rcases hx with rfl | rfl | rfl | rfl | rfl <;> assumption, s5, b5⟩
theorem rd_acts {H : Type} {enc : TypeId × Value → H} {w : World} {cs : List Value} (h : Rd enc Try.prog w 22 cs) : ∃ (v : Value) (l : List ActL), cs = [v] ∧ Sl [Hp.of w] 6 v l.length (l.flatMap actC) ∧ ∀ a ∈ l, ActOk [Hp.of w] a :=
  rd_rows Try.underlying22 (by kernel_rfl) (by decide) actC_len (fun r hr => rd_act hr) h
end Go.Q
