/-
  Parts of a walk: what functions of the program compute, each told by a theorem.
-/
import Derived.Test.YtcffibbdbalmjaaQEBase
import Derived.Test.YtcffibbdbalmjaaQAreaA
set_option linter.unusedVariables false
set_option linter.unusedSimpArgs false
namespace Go.Q
open Go.Proofs
set_option linter.unusedVariables false
set_option maxRecDepth 100000
attribute [local irreducible] wpList OK Code.wp
theorem rd_aact {H : Type} {enc : TypeId × Value → H} {w : World} {cs : List Value} (h : RdS enc Try.prog w 56 cs) : ∃ a : AAct, cs = aaC a ∧ AaOk [Hp.of w] a := by
  obtain ⟨hl, hf⟩ := rds_struct Try.underlying56 h
  have hl : cs.length = 5 := hl.trans (by kernel_rfl)
  obtain ⟨c0, c1, c2, c3, c4, rfl⟩ : ∃ c0 c1 c2 c3 c4, cs = [c0, c1, c2, c3, c4] := by
    match cs, hl with
    | [c0, c1, c2, c3, c4], _ => exact ⟨c0, c1, c2, c3, c4, rfl⟩
  have f0 : RdS enc Try.prog w 3 [c0] := rds_field (i := 0) (k := 1) hf rfl rfl (by kernel_rfl) rfl
  obtain ⟨n0, e0, b0⟩ := rd_i64 Try.underlying3 f0.rd
  obtain rfl := (List.cons.inj e0).1
  have f1 : RdS enc Try.prog w 3 [c1] := rds_field (i := 1) (k := 1) hf rfl rfl (by kernel_rfl) rfl
  obtain ⟨n1, e1, b1⟩ := rd_i64 Try.underlying3 f1.rd
  obtain rfl := (List.cons.inj e1).1
  have f2 : RdS enc Try.prog w 3 [c2] := rds_field (i := 2) (k := 1) hf rfl rfl (by kernel_rfl) rfl
  obtain ⟨n2, e2, b2⟩ := rd_i64 Try.underlying3 f2.rd
  obtain rfl := (List.cons.inj e2).1
  have f3 : RdS enc Try.prog w 53 [c3] := rds_field (i := 3) (k := 1) hf rfl rfl (by kernel_rfl) rfl
  obtain ⟨u3, n3, e3, s3, b3, _⟩ := rds_strings Try.underlying53 Try.underlying9 (by kernel_rfl) f3
  obtain rfl := (List.cons.inj e3).1
  have f4 : RdS enc Try.prog w 54 [c4] := rds_field (i := 4) (k := 1) hf rfl rfl (by kernel_rfl) rfl
  obtain ⟨u4, n4, e4, s4, b4⟩ := rd_ints Try.underlying54 Try.underlying3 (by kernel_rfl) f4.rd
  obtain rfl := (List.cons.inj e4).1
  exact ⟨⟨n0, n1, n2, _, n3, _, n4⟩, rfl, s3, s4, b3⟩
theorem rd_aacts {H : Type} {enc : TypeId × Value → H} {w : World} {cs : List Value} (h : RdS enc Try.prog w 44 cs) : ∃ (v : Value) (l : List AAct), cs = [v] ∧ Sl [Hp.of w] 5 v l.length (l.flatMap aaC) ∧ ∀ a ∈ l, AaOk [Hp.of w] a := by
  obtain ⟨v, l, h1, h2, h3, _⟩ := rds_rows Try.underlying44 (by kernel_rfl) (by decide) aaC_len (fun r hr => rd_aact hr) h
  exact ⟨v, l, h1, h2, h3⟩
end Go.Q
