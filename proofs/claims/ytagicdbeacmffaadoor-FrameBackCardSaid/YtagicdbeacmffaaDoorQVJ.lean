/-
  strings.Join at this program: the shelf's contract (laid by the kit's lay-shelf.mjs, lay-plain.mjs), told by heaplets.
-/
import Derived.Shelf.Strings.OnBuilder
import Derived.Test.YtagicdbeacmffaaDoorQZ
import Derived.Test.YtagicdbeacmffaaDoorQVBase
set_option linter.unusedVariables false
set_option linter.unusedSimpArgs false
namespace Go.Q
open Go.Proofs Go.Shelf
def jl_ren : Go.Shelf.Ren := ⟨fun | 156 => 36 | 165 => 43 | 166 => 44 | 169 => 45 | 240 => 49 | 241 => 50 | 276 => 51 | 277 => 52 | n => n, fun | 31 => 22 | 9 => 9 | 3 => 3 | 4 => 4 | 0 => 0 | 20 => 20 | 72 => 79 | 76 => 83 | 70 => 77 | 37 => 68 | 75 => 82 | 127 => 88 | 164 => 89 | 5 => 5 | 80 => 85 | n => n, fun | n => n⟩
theorem jl : Go.Proofs.Lays.n156 Tryd.prog jl_ren := {
  mixed := by kernel_rfl
  f156 := Tryd.func36.trans (congrArg some (by kernel_rfl))
  f165 := Tryd.func43.trans (congrArg some (by kernel_rfl))
  f166 := Tryd.func44.trans (congrArg some (by kernel_rfl))
  f169 := Tryd.func45.trans (congrArg some (by kernel_rfl))
  f240 := Tryd.func49.trans (congrArg some (by kernel_rfl))
  f241 := Tryd.func50.trans (congrArg some (by kernel_rfl))
  f276 := Tryd.func51.trans (congrArg some (by kernel_rfl))
  f277 := Tryd.func52.trans (congrArg some (by kernel_rfl))
  t0 := Tryd.underlying0
  a0 := Tryd.isAgg0
  z0 := Tryd.sizeOf0
  v0 := Tryd.zeroValue0
  t3 := Tryd.underlying3
  a3 := Tryd.isAgg3
  z3 := Tryd.sizeOf3
  v3 := Tryd.zeroValue3
  t4 := Tryd.underlying4
  a4 := Tryd.isAgg4
  z4 := Tryd.sizeOf4
  v4 := Tryd.zeroValue4
  t9 := Tryd.underlying9
  a9 := Tryd.isAgg9
  z9 := Tryd.sizeOf9
  v9 := Tryd.zeroValue9
  t20 := Tryd.underlying20
  a20 := Tryd.isAgg20
  z20 := Tryd.sizeOf20
  v20 := Tryd.zeroValue20
  t31 := Tryd.underlying22
  a31 := Tryd.isAgg22
  z31 := Tryd.sizeOf22
  v31 := Tryd.zeroValue22
  t37 := Tryd.underlying68
  a37 := Tryd.isAgg68
  z37 := Tryd.sizeOf68
  v37 := Tryd.zeroValue68
  t70 := Tryd.underlying77
  a70 := Tryd.isAgg77
  z70 := Tryd.sizeOf77
  v70 := Tryd.zeroValue77
  t72 := Tryd.underlying79
  a72 := Tryd.isAgg79
  z72 := Tryd.sizeOf79
  v72 := Tryd.zeroValue79
  t75 := Tryd.underlying82
  a75 := Tryd.isAgg82
  z75 := Tryd.sizeOf82
  v75 := Tryd.zeroValue82
  t76 := Tryd.underlying83
  a76 := Tryd.isAgg83
  z76 := Tryd.sizeOf83
  v76 := Tryd.zeroValue83
  t127 := Tryd.underlying88
  a127 := Tryd.isAgg88
  z127 := Tryd.sizeOf88
  v127 := Tryd.zeroValue88
  t164 := Tryd.underlying89
  a164 := Tryd.isAgg89
  z164 := Tryd.sizeOf89
  v164 := Tryd.zeroValue89 }
theorem jl_extra : Builder.Extra Tryd.prog jl_ren := {
  sizeBuilder := by kernel_rfl
  liesBuilder := by kernel_rfl
  t5 := Tryd.underlying5
  a5 := Tryd.isAgg5
  z5 := Tryd.sizeOf5
  v5 := Tryd.zeroValue5
  infoByte := by kernel_rfl
  cellsByte := by kernel_rfl
  sizeByte := by kernel_rfl
  neB5 := by decide }

theorem Has.of_below {E w w' : World} {ss : List (List Hp)} (H : Has E w ss) (hb : Go.RowKit.Below w.heap.size w w') : Has E w' ss :=
  ⟨hb.os.trans H.os, hb.tape.trans H.tape, hb.output.trans H.output, H.dj, fun h hh b o ho => by
    have h1 := Has0.sub H h hh b o ho
    rw [hb.block b (Array.getElem?_eq_some_iff.1 h1).1]; exact h1⟩
theorem join_flat : ∀ l : List (List UInt8), Lib.join l [] = l.flatten
  | [] => rfl
  | [x] => by rw [Lib.join_one]; simp
  | x :: y :: r => by
    have h := join_flat (y :: r)
    unfold Lib.join List.intercalate at *
    rw [List.intersperse_cons_cons, List.flatten_cons, List.flatten_cons, h, List.nil_append]; rfl
theorem join_c {E w : World} {R : List Hp} (hH : Has E w [R]) {v : Value} {l : List (List UInt8)} (hv : Sl R 1 v l.length (l.map S)) (hn : l.length ≤ 1000000) (hl : l.flatten.length ≤ 1000000000) :
    Calls Tryd.prog 36 #[v, S []] w fun e w' => e = .returned (S l.flatten) ∧ Has E w' [R] := by
  obtain ⟨p, cap, rfl, h1, h2, h3, h4⟩ := hv
  rcases Nat.eq_zero_or_pos l.length with h0 | h0
  · obtain rfl := List.eq_nil_of_length_eq_zero h0
    exact (Any.strings_Join_none jl jl_extra p cap ⟨#[]⟩ w).mono fun e w' ⟨he, hw⟩ => ⟨he, by rw [hw]; exact hH⟩
  · obtain ⟨b, off, rfl, hc⟩ := h4 h0
    have hcell : ∀ (j : Nat) x, (l.map (fun a => (⟨a.toArray⟩ : ByteArray)))[j]? = some x → w.cell? ⟨b, off + j, none⟩ = some (.string x) := fun j x hx => by
      rw [List.getElem?_map, Option.map_eq_some_iff] at hx
      obtain ⟨a, ha, rfl⟩ := hx
      exact hH.cell (L := R) (by simp) hc (v := S a) (by rw [List.getElem?_map, ha]; rfl)
    have hb : b < w.heap.size := by
      obtain ⟨x, hx⟩ : ∃ x, l[0]? = some x := ⟨l[0], List.getElem?_eq_getElem h0⟩
      have := hcell 0 ⟨x.toArray⟩ (by rw [List.getElem?_map, hx]; rfl)
      unfold World.cell? at this
      cases hw : w.heap[b]? with
      | none => rw [hw] at this; cases this
      | some o => exact (Array.getElem?_eq_some_iff.1 hw).1
    have e1 : (l.map (fun a => (⟨a.toArray⟩ : ByteArray))).map (·.data.toList) = l := by rw [List.map_map]; simp [Function.comp_def]
    have hj : Lib.join ((l.map (fun a => (⟨a.toArray⟩ : ByteArray))).map (·.data.toList)) ((⟨#[]⟩ : ByteArray).data.toList) = l.flatten := by rw [e1]; exact join_flat l
    have hs := Any.strings_Join jl jl_extra b off cap (l.map (fun a => (⟨a.toArray⟩ : ByteArray))) ⟨#[]⟩ w hcell hb (by rw [List.length_map]; omega) (by rw [List.length_map]; exact h1) (by rw [hj]; omega)
    rw [hj, List.length_map] at hs
    exact hs.mono fun e w' ⟨he, hb⟩ => ⟨he, hH.of_below hb⟩
end Go.Q
