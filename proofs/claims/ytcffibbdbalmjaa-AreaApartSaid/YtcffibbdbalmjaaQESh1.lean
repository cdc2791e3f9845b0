/-
  strings.Join, strings.Repeat, bits.Mul at this program: the shelf's contracts (laid by the kit's lay-plain.mjs), told by heaplets.
-/
import Derived.Shelf.Strings.OnBuilder
import Derived.Shelf.Strings.Repeat
import Derived.Shelf.Bits.Mul64
import Derived.Test.YtcffibbdbalmjaaQZ
import Derived.Test.YtcffibbdbalmjaaQEBase
set_option linter.unusedVariables false
set_option linter.unusedSimpArgs false
namespace Go.Q
open Go.Proofs Go.Shelf
def jl_ren : Go.Shelf.Ren := ⟨fun | 156 => 79 | 165 => 120 | 166 => 81 | 169 => 82 | 240 => 121 | 241 => 159 | 276 => 160 | 277 => 181 | n => n, fun | 31 => 53 | 9 => 9 | 3 => 3 | 4 => 4 | 0 => 0 | 20 => 20 | 72 => 149 | 76 => 152 | 70 => 146 | 37 => 147 | 75 => 151 | 127 => 208 | 164 => 243 | 5 => 5 | 80 => 58 | n => n, fun | n => n⟩
theorem jl : Go.Proofs.Lays.n156 Try.prog jl_ren := {
  mixed := by kernel_rfl
  f156 := Try.func79.trans (congrArg some (by kernel_rfl))
  f165 := Try.func120.trans (congrArg some (by kernel_rfl))
  f166 := Try.func81.trans (congrArg some (by kernel_rfl))
  f169 := Try.func82.trans (congrArg some (by kernel_rfl))
  f240 := Try.func121.trans (congrArg some (by kernel_rfl))
  f241 := Try.func159.trans (congrArg some (by kernel_rfl))
  f276 := Try.func160.trans (congrArg some (by kernel_rfl))
  f277 := Try.func181.trans (congrArg some (by kernel_rfl))
  t0 := Try.underlying0
  a0 := Try.isAgg0
  z0 := Try.sizeOf0
  v0 := Try.zeroValue0
  t3 := Try.underlying3
  a3 := Try.isAgg3
  z3 := Try.sizeOf3
  v3 := Try.zeroValue3
  t4 := Try.underlying4
  a4 := Try.isAgg4
  z4 := Try.sizeOf4
  v4 := Try.zeroValue4
  t9 := Try.underlying9
  a9 := Try.isAgg9
  z9 := Try.sizeOf9
  v9 := Try.zeroValue9
  t20 := Try.underlying20
  a20 := Try.isAgg20
  z20 := Try.sizeOf20
  v20 := Try.zeroValue20
  t31 := Try.underlying53
  a31 := Try.isAgg53
  z31 := Try.sizeOf53
  v31 := Try.zeroValue53
  t37 := Try.underlying147
  a37 := Try.isAgg147
  z37 := Try.sizeOf147
  v37 := Try.zeroValue147
  t70 := Try.underlying146
  a70 := Try.isAgg146
  z70 := Try.sizeOf146
  v70 := Try.zeroValue146
  t72 := Try.underlying149
  a72 := Try.isAgg149
  z72 := Try.sizeOf149
  v72 := Try.zeroValue149
  t75 := Try.underlying151
  a75 := Try.isAgg151
  z75 := Try.sizeOf151
  v75 := Try.zeroValue151
  t76 := Try.underlying152
  a76 := Try.isAgg152
  z76 := Try.sizeOf152
  v76 := Try.zeroValue152
  t127 := Try.underlying208
  a127 := Try.isAgg208
  z127 := Try.sizeOf208
  v127 := Try.zeroValue208
  t164 := Try.underlying243
  a164 := Try.isAgg243
  z164 := Try.sizeOf243
  v164 := Try.zeroValue243 }
def rpl_ren : Go.Shelf.Ren := ⟨fun | 105 => 119 | 212 => 118 | 99 => 157 | 165 => 120 | 166 => 81 | 170 => 158 | 169 => 82 | 263 => 155 | 264 => 156 | 206 => 180 | 240 => 121 | 241 => 159 | 276 => 160 | 277 => 181 | n => n, fun | 9 => 9 | 3 => 3 | 4 => 4 | 20 => 20 | 0 => 0 | 46 => 204 | 109 => 205 | 5 => 5 | 72 => 149 | 76 => 152 | 51 => 236 | 146 => 237 | 53 => 239 | 148 => 240 | 70 => 146 | 37 => 147 | 75 => 151 | 127 => 208 | 164 => 243 | 80 => 58 | n => n, fun | n => n⟩
theorem rpl : Go.Proofs.Lays.n105 Try.prog rpl_ren := {
  mixed := by kernel_rfl
  f99 := Try.func157.trans (congrArg some (by kernel_rfl))
  f105 := Try.func119.trans (congrArg some (by kernel_rfl))
  f165 := Try.func120.trans (congrArg some (by kernel_rfl))
  f166 := Try.func81.trans (congrArg some (by kernel_rfl))
  f169 := Try.func82.trans (congrArg some (by kernel_rfl))
  f170 := Try.func158.trans (congrArg some (by kernel_rfl))
  f206 := Try.func180.trans (congrArg some (by kernel_rfl))
  f212 := Try.func118.trans (congrArg some (by kernel_rfl))
  f240 := Try.func121.trans (congrArg some (by kernel_rfl))
  f241 := Try.func159.trans (congrArg some (by kernel_rfl))
  f263 := Try.func155.trans (congrArg some (by kernel_rfl))
  f264 := Try.func156.trans (congrArg some (by kernel_rfl))
  f276 := Try.func160.trans (congrArg some (by kernel_rfl))
  f277 := Try.func181.trans (congrArg some (by kernel_rfl))
  t0 := Try.underlying0
  a0 := Try.isAgg0
  z0 := Try.sizeOf0
  v0 := Try.zeroValue0
  t3 := Try.underlying3
  a3 := Try.isAgg3
  z3 := Try.sizeOf3
  v3 := Try.zeroValue3
  t4 := Try.underlying4
  a4 := Try.isAgg4
  z4 := Try.sizeOf4
  v4 := Try.zeroValue4
  t5 := Try.underlying5
  a5 := Try.isAgg5
  z5 := Try.sizeOf5
  v5 := Try.zeroValue5
  t9 := Try.underlying9
  a9 := Try.isAgg9
  z9 := Try.sizeOf9
  v9 := Try.zeroValue9
  t20 := Try.underlying20
  a20 := Try.isAgg20
  z20 := Try.sizeOf20
  v20 := Try.zeroValue20
  t37 := Try.underlying147
  a37 := Try.isAgg147
  z37 := Try.sizeOf147
  v37 := Try.zeroValue147
  t46 := Try.underlying204
  a46 := Try.isAgg204
  z46 := Try.sizeOf204
  v46 := Try.zeroValue204
  t51 := Try.underlying236
  a51 := Try.isAgg236
  z51 := Try.sizeOf236
  v51 := Try.zeroValue236
  t53 := Try.underlying239
  a53 := Try.isAgg239
  z53 := Try.sizeOf239
  v53 := Try.zeroValue239
  t70 := Try.underlying146
  a70 := Try.isAgg146
  z70 := Try.sizeOf146
  v70 := Try.zeroValue146
  t72 := Try.underlying149
  a72 := Try.isAgg149
  z72 := Try.sizeOf149
  v72 := Try.zeroValue149
  t75 := Try.underlying151
  a75 := Try.isAgg151
  z75 := Try.sizeOf151
  v75 := Try.zeroValue151
  t76 := Try.underlying152
  a76 := Try.isAgg152
  z76 := Try.sizeOf152
  v76 := Try.zeroValue152
  t109 := Try.underlying205
  a109 := Try.isAgg205
  z109 := Try.sizeOf205
  v109 := Try.zeroValue205
  t127 := Try.underlying208
  a127 := Try.isAgg208
  z127 := Try.sizeOf208
  v127 := Try.zeroValue208
  t146 := Try.underlying237
  a146 := Try.isAgg237
  z146 := Try.sizeOf237
  v146 := Try.zeroValue237
  t148 := Try.underlying240
  a148 := Try.isAgg240
  z148 := Try.sizeOf240
  v148 := Try.zeroValue240
  t164 := Try.underlying243
  a164 := Try.isAgg243
  z164 := Try.sizeOf243
  v164 := Try.zeroValue243 }
def mul_ren : Go.Shelf.Ren := ⟨fun | 212 => 118 | 263 => 155 | 264 => 156 | n => n, fun | 46 => 204 | 51 => 236 | 146 => 237 | 53 => 239 | 148 => 240 | n => n, fun | n => n⟩
theorem mul : Go.Proofs.Lays.n212 Try.prog mul_ren := {
  mixed := by kernel_rfl
  f212 := Try.func118.trans (congrArg some (by kernel_rfl))
  f263 := Try.func155.trans (congrArg some (by kernel_rfl))
  f264 := Try.func156.trans (congrArg some (by kernel_rfl))
  t46 := Try.underlying204
  a46 := Try.isAgg204
  z46 := Try.sizeOf204
  v46 := Try.zeroValue204
  t51 := Try.underlying236
  a51 := Try.isAgg236
  z51 := Try.sizeOf236
  v51 := Try.zeroValue236
  t53 := Try.underlying239
  a53 := Try.isAgg239
  z53 := Try.sizeOf239
  v53 := Try.zeroValue239
  t146 := Try.underlying237
  a146 := Try.isAgg237
  z146 := Try.sizeOf237
  v146 := Try.zeroValue237
  t148 := Try.underlying240
  a148 := Try.isAgg240
  z148 := Try.sizeOf240
  v148 := Try.zeroValue240 }
theorem jl_extra : Builder.Extra Try.prog jl_ren := {
  sizeBuilder := by kernel_rfl
  liesBuilder := by kernel_rfl
  t5 := Try.underlying5
  a5 := Try.isAgg5
  z5 := Try.sizeOf5
  v5 := Try.zeroValue5
  infoByte := by kernel_rfl
  cellsByte := by kernel_rfl
  sizeByte := by kernel_rfl
  neB5 := by decide }

theorem Has.of_below {E w w' : World} {ss : List (List Hp)} (H : Has E w ss) (hb : Go.RowKit.Below w.heap.size w w') : Has E w' ss :=
  ⟨hb.os.trans H.os, hb.tape.trans H.tape, hb.output.trans H.output, H.dj, fun h hh b o ho => by
    have h1 := Has0.sub H h hh b o ho
    rw [hb.block b (Array.getElem?_eq_some_iff.1 h1).1]; exact h1⟩
theorem join_flat : ∀ l : List (List UInt8), Lib.join l [] = l.flatten
  | [] => rfl
  | [x] => by rw [Lib.join_one]; simp
  | x :: y :: r => by
    have h := join_flat (y :: r)
    unfold Lib.join List.intercalate at *
    rw [List.intersperse_cons_cons, List.flatten_cons, List.flatten_cons, h, List.nil_append]; rfl
theorem join_c {E w : World} {R : List Hp} (hH : Has E w [R]) {v : Value} {l : List (List UInt8)} (hv : Sl R 1 v l.length (l.map S)) (hn : l.length ≤ 1000000) (hl : l.flatten.length ≤ 1000000000) :
    Calls Try.prog 79 #[v, S []] w fun e w' => e = .returned (S l.flatten) ∧ Has E w' [R] := by
  obtain ⟨p, cap, rfl, h1, h2, h3, h4⟩ := hv
  rcases Nat.eq_zero_or_pos l.length with h0 | h0
  · obtain rfl := List.eq_nil_of_length_eq_zero h0
    exact (Any.strings_Join_none jl jl_extra p cap ⟨#[]⟩ w).mono fun e w' ⟨he, hw⟩ => ⟨he, by rw [hw]; exact hH⟩
  · obtain ⟨b, off, rfl, hc⟩ := h4 h0
    have hcell : ∀ (j : Nat) x, (l.map (fun a => (⟨a.toArray⟩ : ByteArray)))[j]? = some x → w.cell? ⟨b, off + j, none⟩ = some (.string x) := fun j x hx => by
      rw [List.getElem?_map, Option.map_eq_some_iff] at hx
      obtain ⟨a, ha, rfl⟩ := hx
      exact hH.cell (L := R) (by simp) hc (v := S a) (by rw [List.getElem?_map, ha]; rfl)
    have hb : b < w.heap.size := by
      obtain ⟨x, hx⟩ : ∃ x, l[0]? = some x := ⟨l[0], List.getElem?_eq_getElem h0⟩
      have := hcell 0 ⟨x.toArray⟩ (by rw [List.getElem?_map, hx]; rfl)
      unfold World.cell? at this
      cases hw : w.heap[b]? with
      | none => rw [hw] at this; cases this
      | some o => exact (Array.getElem?_eq_some_iff.1 hw).1
    have e1 : (l.map (fun a => (⟨a.toArray⟩ : ByteArray))).map (·.data.toList) = l := by rw [List.map_map]; simp [Function.comp_def]
    have hj : Lib.join ((l.map (fun a => (⟨a.toArray⟩ : ByteArray))).map (·.data.toList)) ((⟨#[]⟩ : ByteArray).data.toList) = l.flatten := by rw [e1]; exact join_flat l
    have hs := Any.strings_Join jl jl_extra b off cap (l.map (fun a => (⟨a.toArray⟩ : ByteArray))) ⟨#[]⟩ w hcell hb (by rw [List.length_map]; omega) (by rw [List.length_map]; exact h1) (by rw [hj]; omega)
    rw [hj, List.length_map] at hs
    exact hs.mono fun e w' ⟨he, hb⟩ => ⟨he, hH.of_below hb⟩
theorem rpl_extra : Builder.Extra Try.prog rpl_ren := {
  sizeBuilder := by kernel_rfl
  liesBuilder := by kernel_rfl
  t5 := Try.underlying5
  a5 := Try.isAgg5
  z5 := Try.sizeOf5
  v5 := Try.zeroValue5
  infoByte := by kernel_rfl
  cellsByte := by kernel_rfl
  sizeByte := by kernel_rfl
  neB5 := by decide }
theorem repeat_c {E w : World} {R : List Hp} (hH : Has E w [R]) (n : Nat) (hn : n ≤ 1000000) : Calls Try.prog 119 #[S [0], .int .i64 (n : Int)] w fun e w' => e = .returned (S (List.replicate n 0)) ∧ Has E w' [R] := by
  have h := Any.strings_Repeat rpl rpl_extra ⟨#[0]⟩ n w (by omega) (by show 1 * n ≤ _; omega)
  refine h.mono fun e w' ⟨he, hb⟩ => ⟨?_, hH.of_below hb⟩
  rw [he]
  have : ∀ n, Lib.repeatL [(0 : UInt8)] n = List.replicate n 0 := fun n => by
    induction n with
    | zero => rfl
    | succ n ih => simp [Lib.repeatL, List.replicate_succ] at *; try exact ih
  exact congrArg (fun l => Ending.returned (Value.string ⟨l.toArray⟩)) (this n)
theorem mul_c {E w : World} {R : List Hp} (hH : Has E w [R]) (x y : Nat) (h : x * y < 18446744073709551616) (hx : x < 18446744073709551616) (hy : y < 18446744073709551616) : Calls Try.prog 118 #[.int .u64 x, .int .u64 y] w fun e w' => e = .returned (.tuple #[.int .u64 0, .int .u64 ((x * y : Nat) : Int)]) ∧ Has E w' [R] := by
  refine (Any.bits_Mul mul x y hx hy w).mono fun e w' ⟨he, hw⟩ => ⟨?_, hw ▸ hH⟩
  rw [he, Nat.div_eq_of_lt h, Nat.mod_eq_of_lt h]; rfl
end Go.Q
