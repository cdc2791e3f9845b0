/-
  From what a walk leaves of the heap to what a row asks; arguments as rows that are read.
-/
import Derived.Test.YtcffibbdbalmjaaQI
import Derived.Below
set_option linter.unusedVariables false
set_option linter.unusedSimpArgs false
namespace Go.Q
theorem Has.below {w w' : World} (H : Has w w' [[Hp.of w]]) : RowKit.Below w.heap.size w w' := by
  have hs : ∀ b o, w.heap[b]? = some o → w'.heap[b]? = some o := Has0.sub H (Hp.of w) (by simp)
  have hb : ∀ k, k < w.heap.size → w'.heap[k]? = w.heap[k]? := fun k hk => by
    rw [hs k w.heap[k] (Array.getElem?_eq_getElem hk), Array.getElem?_eq_getElem hk]
  refine ⟨H.os, H.tape, H.output, ?_, hb⟩
  rcases Nat.eq_zero_or_pos w.heap.size with h | h
  · omega
  · have h1 := hb (w.heap.size - 1) (by omega)
    rw [Array.getElem?_eq_getElem (show w.heap.size - 1 < w.heap.size by omega)] at h1
    have h2 := (Array.getElem?_eq_some_iff.1 h1).1
    omega
/-- cells that are read one by one, as a row -/
theorem cells_row {w : World} {x : Addr} {vs : List Value} (h0 : 0 < vs.length) (h : ∀ i v, vs[i]? = some v → w.cell? (x.add i) = some v) : ∃ b off, x = ⟨b, off, none⟩ ∧ CellsAt [Hp.of w] b off vs := by
  obtain ⟨b, off, spot⟩ := x
  have hc := h 0 vs[0] (List.getElem?_eq_getElem h0)
  simp only [Addr.add, if_true, World.cell?] at hc
  cases hb : w.heap[b]? with
  | none => rw [hb] at hc; cases hc
  | some o =>
    cases o with
    | cells c T f =>
      rw [hb] at hc
      simp only at hc
      cases spot with
      | some s => simp at hc
      | none =>
        refine ⟨b, off, rfl, Hp.of w, List.mem_singleton.2 rfl, c, T, f, hb, fun j v hv => ?_⟩
        have := h j v hv
        rw [add_lit] at this
        simpa [World.cell?, hb] using this
    | _ => rw [hb] at hc; simp at hc
theorem ints_row {w : World} {a : Option Addr} {len cap : Nat} {zs : List Int}
    (h : (a = none ∧ len = 0 ∧ cap = 0 ∧ zs = []) ∨ ∃ x, a = some x ∧ len ≤ cap ∧ cap ≤ maxLen ∧ zs.length = cap ∧ (∀ i, i < zs.length → w.cell? (x.add i) = some (.int .i64 (zs.getD i 0))) ∧ ∀ n ∈ zs, (Lit.int .i64 n).wf = true) :
    ∃ l : List Int, l.length = len ∧ Ints [Hp.of w] (.slice a len cap) l ∧ ∀ n ∈ l, -9223372036854775808 ≤ n ∧ n ≤ 9223372036854775807 := by
  rcases h with ⟨rfl, rfl, rfl, rfl⟩ | ⟨x, rfl, h1, h2, h3, h4, h5⟩
  · exact ⟨[], rfl, sl_nil 1, fun n hn => by cases hn⟩
  · have hl : (zs.take len).length = len := by rw [List.length_take]; omega
    refine ⟨zs.take len, hl, ?_, fun n hn => ?_⟩
    · unfold Ints
      rw [hl]
      refine ⟨some x, cap, rfl, h1, by simpa [maxLen] using h2, by simp; omega, fun h0 => ?_⟩
      obtain ⟨b, off, rfl, hc⟩ := cells_row (w := w) (x := x) (vs := (zs.take len).map iV) (by simp; omega) (fun i v hv => by
        rw [List.getElem?_map, Option.map_eq_some_iff] at hv
        obtain ⟨z, hz, rfl⟩ := hv
        rw [List.getElem?_take] at hz
        split at hz
        · rw [h4 i (by omega), List.getD_eq_getElem?_getD, hz]; rfl
        · cases hz)
      exact ⟨b, off, rfl, hc⟩
    · have := h5 n (List.mem_of_mem_take hn)
      simp only [Lit.wf, IntKind.min, IntKind.max, IntKind.signed, IntKind.bits, Bool.and_eq_true, decide_eq_true_eq, if_true] at this
      omega
end Go.Q
namespace Go.Q
theorem wf_i64 {x : Int} (h : (Lit.int .i64 x).wf = true) : -9223372036854775808 ≤ x ∧ x ≤ 9223372036854775807 := by
  simp only [Lit.wf, IntKind.min, IntKind.max, IntKind.signed, IntKind.bits, Bool.and_eq_true, decide_eq_true_eq, if_true] at h
  omega
theorem wf_u8 {x : Int} (h : (Lit.int .u8 x).wf = true) : 0 ≤ x ∧ x ≤ 255 := by
  simp [Lit.wf, IntKind.min, IntKind.max, IntKind.signed, IntKind.bits] at h
  omega
end Go.Q
