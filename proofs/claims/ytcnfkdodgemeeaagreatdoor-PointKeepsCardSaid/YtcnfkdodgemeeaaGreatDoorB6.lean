/-
  Parts of a walk: what functions of the program compute, each told by a theorem (QzRd).
-/
import Derived.Test.YtcnfkdodgemeeaaGreatDoorB5
set_option linter.unusedVariables false
set_option linter.unusedSimpArgs false
namespace Go.Q
open Go.Proofs
set_option linter.unusedVariables false
set_option maxRecDepth 100000
attribute [local irreducible] wpList OK Code.wp
theorem rd_rhead {H : Type} {enc : TypeId × Value → H} {w : World} {cs : List Value} (h : Rd enc Tryz.prog w 23 cs) : ∃ a : Hd, cs = hdC a ∧ True := by
  obtain ⟨hl, hf⟩ := rd_struct Tryz.underlying23 h
  have hl : cs.length = 5 := hl.trans (by kernel_rfl)
  obtain ⟨c0, c1, c2, c3, c4, rfl⟩ : ∃ c0 c1 c2 c3 c4, cs = [c0, c1, c2, c3, c4] := by
    match cs, hl with
    | [c0, c1, c2, c3, c4], _ => exact ⟨c0, c1, c2, c3, c4, rfl⟩
  have f0_6 : Rd enc Tryz.prog w 3 [c0] := rd_field (i := 0) (k := 1) hf rfl rfl (by kernel_rfl) rfl
  obtain ⟨n0, e0, b0⟩ := rd_i64 Tryz.underlying3 f0_6
  obtain rfl := (List.cons.inj e0).1
  have f1_9 : Rd enc Tryz.prog w 3 [c1] := rd_field (i := 1) (k := 1) hf rfl rfl (by kernel_rfl) rfl
  obtain ⟨n1, e1, b1⟩ := rd_i64 Tryz.underlying3 f1_9
  obtain rfl := (List.cons.inj e1).1
  have f2_12 : Rd enc Tryz.prog w 3 [c2] := rd_field (i := 2) (k := 1) hf rfl rfl (by kernel_rfl) rfl
  obtain ⟨n2, e2, b2⟩ := rd_i64 Tryz.underlying3 f2_12
  obtain rfl := (List.cons.inj e2).1
  have f3_15 : Rd enc Tryz.prog w 3 [c3] := rd_field (i := 3) (k := 1) hf rfl rfl (by kernel_rfl) rfl
  obtain ⟨n3, e3, b3⟩ := rd_i64 Tryz.underlying3 f3_15
  obtain rfl := (List.cons.inj e3).1
  have f4_18 : Rd enc Tryz.prog w 3 [c4] := rd_field (i := 4) (k := 1) hf rfl rfl (by kernel_rfl) rfl
  obtain ⟨n4, e4, b4⟩ := rd_i64 Tryz.underlying3 f4_18
  obtain rfl := (List.cons.inj e4).1
  exact ⟨⟨n0, n1, n2, n3, n4⟩, rfl, trivial⟩
theorem rd_head {H : Type} {enc : TypeId × Value → H} {w : World} {cs : List Value} (h : Rd enc Tryz.prog w 27 cs) : ∃ a : Hd, cs = hdC a ∧ True := by
  obtain ⟨hl, hf⟩ := rd_struct Tryz.underlying27 h
  have hl : cs.length = 5 := hl.trans (by kernel_rfl)
  obtain ⟨c0, c1, c2, c3, c4, rfl⟩ : ∃ c0 c1 c2 c3 c4, cs = [c0, c1, c2, c3, c4] := by
    match cs, hl with
    | [c0, c1, c2, c3, c4], _ => exact ⟨c0, c1, c2, c3, c4, rfl⟩
  have f0_6 : Rd enc Tryz.prog w 3 [c0] := rd_field (i := 0) (k := 1) hf rfl rfl (by kernel_rfl) rfl
  obtain ⟨n0, e0, b0⟩ := rd_i64 Tryz.underlying3 f0_6
  obtain rfl := (List.cons.inj e0).1
  have f1_9 : Rd enc Tryz.prog w 3 [c1] := rd_field (i := 1) (k := 1) hf rfl rfl (by kernel_rfl) rfl
  obtain ⟨n1, e1, b1⟩ := rd_i64 Tryz.underlying3 f1_9
  obtain rfl := (List.cons.inj e1).1
  have f2_12 : Rd enc Tryz.prog w 3 [c2] := rd_field (i := 2) (k := 1) hf rfl rfl (by kernel_rfl) rfl
  obtain ⟨n2, e2, b2⟩ := rd_i64 Tryz.underlying3 f2_12
  obtain rfl := (List.cons.inj e2).1
  have f3_15 : Rd enc Tryz.prog w 3 [c3] := rd_field (i := 3) (k := 1) hf rfl rfl (by kernel_rfl) rfl
  obtain ⟨n3, e3, b3⟩ := rd_i64 Tryz.underlying3 f3_15
  obtain rfl := (List.cons.inj e3).1
  have f4_18 : Rd enc Tryz.prog w 3 [c4] := rd_field (i := 4) (k := 1) hf rfl rfl (by kernel_rfl) rfl
  obtain ⟨n4, e4, b4⟩ := rd_i64 Tryz.underlying3 f4_18
  obtain rfl := (List.cons.inj e4).1
  exact ⟨⟨n0, n1, n2, n3, n4⟩, rfl, trivial⟩
theorem rd_point {H : Type} {enc : TypeId × Value → H} {w : World} {cs : List Value} (h : Rd enc Tryz.prog w 50 cs) : ∃ a : Int × Int, cs = ptC a ∧ True := by
  obtain ⟨hl, hf⟩ := rd_struct Tryz.underlying50 h
  have hl : cs.length = 2 := hl.trans (by kernel_rfl)
  obtain ⟨c0, c1, rfl⟩ : ∃ c0 c1, cs = [c0, c1] := by
    match cs, hl with
    | [c0, c1], _ => exact ⟨c0, c1, rfl⟩
  have f0_6 : Rd enc Tryz.prog w 3 [c0] := rd_field (i := 0) (k := 1) hf rfl rfl (by kernel_rfl) rfl
  obtain ⟨n0, e0, b0⟩ := rd_i64 Tryz.underlying3 f0_6
  obtain rfl := (List.cons.inj e0).1
  have f1_9 : Rd enc Tryz.prog w 3 [c1] := rd_field (i := 1) (k := 1) hf rfl rfl (by kernel_rfl) rfl
  obtain ⟨n1, e1, b1⟩ := rd_i64 Tryz.underlying3 f1_9
  obtain rfl := (List.cons.inj e1).1
  exact ⟨⟨n0, n1⟩, rfl, trivial⟩
theorem rd_points {H : Type} {enc : TypeId × Value → H} {w : World} {cs : List Value} (h : Rd enc Tryz.prog w 58 cs) : ∃ (v : Value) (l : List (Int × Int)), cs = [v] ∧ Sl [Hp.of w] 2 v l.length (l.flatMap ptC) ∧ ∀ a ∈ l, True :=
  rd_rows Tryz.underlying58 (by kernel_rfl) (by decide) ptC_len (fun r hr => rd_point hr) h
end Go.Q
