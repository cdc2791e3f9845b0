/-
  slices.Sorted(maps.Keys(m)) for keys that are whole numbers, at this program: the shelf's contracts (laid by the kit's lay-plain.mjs), told by heaplets.
-/
import Derived.Shelf.SlIterI.Sorted
import Derived.Shelf.SortM.Plain
import Derived.Shelf.SortM.SortNone
import Derived.Maps.Range
import Derived.Test.YtcffibbdbalmjaaQESh1
import Derived.Test.YtcffibbdbalmjaaQDev
set_option linter.unusedVariables false
set_option linter.unusedSimpArgs false
namespace Go.Q
open Go.Proofs Go.Shelf
def kyl_ren : Go.Shelf.Ren := ⟨fun | 7 => 89 | 10 => 124 | n => n, fun | 23 => 135 | 26 => 3 | 3 => 9 | 28 => 160 | 0 => 0 | 27 => 159 | 33 => 156 | 4 => 4 | n => n, fun | n => n⟩
theorem kyl : Go.Proofs.SlLaysZI.n7 Try.prog kyl_ren := {
  mixed := by kernel_rfl
  f7 := ⟨Try.f89.name, by decide, Try.func89.trans (congrArg some (by kernel_rfl))⟩
  f10 := ⟨Try.f124.name, by decide, Try.func124.trans (congrArg some (by kernel_rfl))⟩
  t0 := Try.underlying0
  a0 := Try.isAgg0
  z0 := Try.sizeOf0
  v0 := Try.zeroValue0
  t4 := Try.underlying4
  a4 := Try.isAgg4
  z4 := Try.sizeOf4
  v4 := Try.zeroValue4
  t23 := Try.underlying135
  a23 := Try.isAgg135
  z23 := Try.sizeOf135
  v23 := Try.zeroValue135
  t26 := Try.underlying3
  a26 := Try.isAgg3
  z26 := Try.sizeOf3
  v26 := Try.zeroValue3
  t27 := Try.underlying159
  a27 := Try.isAgg159
  z27 := Try.sizeOf159
  v27 := Try.zeroValue159
  t28 := Try.underlying160
  a28 := Try.isAgg160
  z28 := Try.sizeOf160
  v28 := Try.zeroValue160
  t33 := Try.underlying156
  a33 := Try.isAgg156
  z33 := Try.sizeOf156
  v33 := Try.zeroValue156 }
def stl_ren : Go.Shelf.Ren := ⟨fun | 6 => 88 | 8 => 122 | 9 => 123 | 11 => 161 | 13 => 163 | 12 => 162 | 23 => 191 | 24 => 192 | 14 => 182 | 15 => 183 | 16 => 184 | 17 => 185 | 18 => 186 | 19 => 187 | 20 => 188 | 21 => 189 | 22 => 190 | 25 => 201 | 26 => 202 | 27 => 203 | 28 => 204 | 29 => 205 | 30 => 145 | 31 => 221 | n => n, fun | 26 => 3 | 28 => 160 | 24 => 54 | 0 => 0 | 3 => 3 | 37 => 204 | 48 => 236 | 50 => 239 | 4 => 4 | 40 => 261 | 39 => 260 | 45 => 119 | 5 => 5 | 9 => 9 | 51 => 273 | 55 => 277 | 57 => 289 | 58 => 290 | 33 => 156 | n => n, fun | n => n⟩
theorem stl : Go.Proofs.SlLaysZI.n6 Try.prog stl_ren := {
  mixed := by kernel_rfl
  f6 := ⟨Try.f88.name, by decide, Try.func88.trans (congrArg some (by kernel_rfl))⟩
  f8 := ⟨Try.f122.name, by decide, Try.func122.trans (congrArg some (by kernel_rfl))⟩
  f11 := ⟨Try.f161.name, by decide, Try.func161.trans (congrArg some (by kernel_rfl))⟩
  t0 := Try.underlying0
  a0 := Try.isAgg0
  z0 := Try.sizeOf0
  v0 := Try.zeroValue0
  t24 := Try.underlying54
  a24 := Try.isAgg54
  z24 := Try.sizeOf54
  v24 := Try.zeroValue54
  t26 := Try.underlying3
  a26 := Try.isAgg3
  z26 := Try.sizeOf3
  v26 := Try.zeroValue3
  t28 := Try.underlying160
  a28 := Try.isAgg160
  z28 := Try.sizeOf160
  v28 := Try.zeroValue160
  i26 := by kernel_rfl }
def srl_ren : Go.Shelf.Ren := ⟨fun | 5 => 123 | 8 => 163 | 7 => 162 | 19 => 191 | 20 => 192 | 10 => 182 | 11 => 183 | 12 => 184 | 13 => 185 | 14 => 186 | 15 => 187 | 16 => 188 | 17 => 189 | 18 => 190 | 30 => 201 | 31 => 202 | 32 => 203 | 33 => 204 | 34 => 205 | 35 => 145 | 40 => 221 | n => n, fun | 23 => 54 | 25 => 3 | 3 => 3 | 32 => 204 | 22 => 54 | 0 => 0 | 44 => 236 | 46 => 239 | 4 => 4 | 36 => 261 | 35 => 260 | 41 => 119 | 5 => 5 | 9 => 9 | 53 => 273 | 57 => 277 | 63 => 289 | 64 => 290 | n => n, fun | n => n⟩
theorem srl : Go.Proofs.SlLaysM.n5 Try.prog srl_ren := {
  mixed := by kernel_rfl
  f5 := ⟨Try.f123.name, by decide, Try.func123.trans (congrArg some (by kernel_rfl))⟩
  f7 := ⟨Try.f162.name, by decide, Try.func162.trans (congrArg some (by kernel_rfl))⟩
  f8 := Try.func163.trans (congrArg some (by kernel_rfl))
  f10 := ⟨Try.f182.name, by decide, Try.func182.trans (congrArg some (by kernel_rfl))⟩
  f11 := ⟨Try.f183.name, by decide, Try.func183.trans (congrArg some (by kernel_rfl))⟩
  f12 := ⟨Try.f184.name, by decide, Try.func184.trans (congrArg some (by kernel_rfl))⟩
  f13 := ⟨Try.f185.name, by decide, Try.func185.trans (congrArg some (by kernel_rfl))⟩
  f14 := ⟨Try.f186.name, by decide, Try.func186.trans (congrArg some (by kernel_rfl))⟩
  f15 := ⟨Try.f187.name, by decide, Try.func187.trans (congrArg some (by kernel_rfl))⟩
  f16 := ⟨Try.f188.name, by decide, Try.func188.trans (congrArg some (by kernel_rfl))⟩
  f17 := ⟨Try.f189.name, by decide, Try.func189.trans (congrArg some (by kernel_rfl))⟩
  f18 := ⟨Try.f190.name, by decide, Try.func190.trans (congrArg some (by kernel_rfl))⟩
  f19 := Try.func191.trans (congrArg some (by kernel_rfl))
  f20 := Try.func192.trans (congrArg some (by kernel_rfl))
  f30 := ⟨Try.f201.name, by decide, Try.func201.trans (congrArg some (by kernel_rfl))⟩
  f31 := Try.func202.trans (congrArg some (by kernel_rfl))
  f32 := Try.func203.trans (congrArg some (by kernel_rfl))
  f33 := ⟨Try.f204.name, by decide, Try.func204.trans (congrArg some (by kernel_rfl))⟩
  f34 := ⟨Try.f205.name, by decide, Try.func205.trans (congrArg some (by kernel_rfl))⟩
  f35 := ⟨Try.f145.name, by decide, Try.func145.trans (congrArg some (by kernel_rfl))⟩
  f40 := ⟨Try.f221.name, by decide, Try.func221.trans (congrArg some (by kernel_rfl))⟩
  t0 := Try.underlying0
  a0 := Try.isAgg0
  z0 := Try.sizeOf0
  v0 := Try.zeroValue0
  t3 := Try.underlying3
  a3 := Try.isAgg3
  z3 := Try.sizeOf3
  v3 := Try.zeroValue3
  t4 := Try.underlying4
  a4 := Try.isAgg4
  z4 := Try.sizeOf4
  v4 := Try.zeroValue4
  t5 := Try.underlying5
  a5 := Try.isAgg5
  z5 := Try.sizeOf5
  v5 := Try.zeroValue5
  t9 := Try.underlying9
  a9 := Try.isAgg9
  z9 := Try.sizeOf9
  v9 := Try.zeroValue9
  t22 := Try.underlying54
  a22 := Try.isAgg54
  z22 := Try.sizeOf54
  v22 := Try.zeroValue54
  t23 := Try.underlying54
  a23 := Try.isAgg54
  z23 := Try.sizeOf54
  v23 := Try.zeroValue54
  t25 := Try.underlying3
  a25 := Try.isAgg3
  z25 := Try.sizeOf3
  v25 := Try.zeroValue3
  t32 := Try.underlying204
  a32 := Try.isAgg204
  z32 := Try.sizeOf204
  v32 := Try.zeroValue204
  t35 := Try.underlying260
  a35 := Try.isAgg260
  z35 := Try.sizeOf260
  v35 := Try.zeroValue260
  t36 := Try.underlying261
  a36 := Try.isAgg261
  z36 := Try.sizeOf261
  v36 := Try.zeroValue261
  t41 := Try.underlying119
  a41 := Try.isAgg119
  z41 := Try.sizeOf119
  v41 := Try.zeroValue119
  t44 := Try.underlying236
  a44 := Try.isAgg236
  z44 := Try.sizeOf236
  v44 := Try.zeroValue236
  t46 := Try.underlying239
  a46 := Try.isAgg239
  z46 := Try.sizeOf239
  v46 := Try.zeroValue239
  t53 := Try.underlying273
  a53 := Try.isAgg273
  z53 := Try.sizeOf273
  v53 := Try.zeroValue273
  t57 := Try.underlying277
  a57 := Try.isAgg277
  z57 := Try.sizeOf277
  v57 := Try.zeroValue277
  t63 := Try.underlying289
  a63 := Try.isAgg289
  z63 := Try.sizeOf289
  v63 := Try.zeroValue289
  t64 := Try.underlying290
  a64 := Try.isAgg290
  z64 := Try.sizeOf290
  v64 := Try.zeroValue290 }

theorem srl_in (m : Nat) : AnyZI.SortsIn Try.prog stl_ren Fence.wide m :=
  ⟨fun blk off cap ss W hH hblk hsz => callsIn_wide.2 (AnyM.slices_Sort_int srl blk off cap ss W hH hblk hsz),
   fun p cap W => callsIn_wide.2 (AnyM.slices_Sort_int_none srl p cap W)⟩
theorem Has.row {E w w' : World} {ss : List (List Hp)} (H : Has E w ss) (hb : Go.RowKit.Below w.heap.size w w') {e : TypeId} {sz n : Nat} {v : Value} {cs : List Value} (hr : w'.ownsRow w.heap.size e sz v n cs) : ∃ hs, Own e sz v n cs hs ∧ Has E w' (hs :: ss) := by
  have H' := H.of_below hb
  obtain ⟨hl, ⟨rfl, h0⟩ | ⟨k, cap, cur, rfl, hk, hbk, h1, h2, h3, h4⟩⟩ := hr
  · exact ⟨[], ⟨hl, .inl ⟨rfl, h0, rfl⟩⟩, Has.nil H'⟩
  · refine ⟨[Hp.one k (.cells cur e (0, 0))], ⟨hl, .inr ⟨k, cap, cur, rfl, rfl, h1, h2, h3, h4⟩⟩, ?_⟩
    refine ⟨H'.os, H'.tape, H'.output, ?_, ?_⟩
    · refine List.pairwise_cons.2 ⟨fun h hh j => ?_, H'.dj⟩
      cases hj : h j with
      | none => exact .inr rfl
      | some o =>
        refine .inl ?_
        have := (Array.getElem?_eq_some_iff.1 (Has0.sub H h hh j o hj)).1
        unfold Hp.one; rw [if_neg (by omega)]
    · intro h hh
      rcases List.mem_cons.1 hh with rfl | hh
      · intro j o hj
        obtain ⟨rfl, rfl⟩ := Hp.one_some hj
        exact hbk
      · exact Has0.sub H' h hh
theorem mkeys_c {E w : World} {ss : List Hp} (H : Has E w [ss]) (mb : Nat) : Calls Try.prog 89 #[.map (some mb)] w fun e w' => ∃ b, e = .returned (.func (.func 124) #[] #[.pointer (some ⟨b, 0, none⟩)]) ∧ Has E w' [[Hp.one b (.cells #[.map (some mb)] 135 (0, 0))], ss] := by
  refine (callsIn_wide.1 (AnyZI.keys_in kyl Fence.wide 5 trivial rfl (some mb) w)).mono fun e w' ⟨he, hw⟩ => ⟨w.heap.size, he, ?_⟩
  rw [hw]
  exact H.alloc _
set_option maxRecDepth 100000 in
theorem MapV.owns {f : Bs → Value} {es : Array MapEntry} {c : Nat} {lo : List (Int × Bs)} (h : MapV iV f es c lo) {w : World} {b : Nat} (hb : w.heap[b]? = some (.map es c)) {k : TypeId} (hk : Try.prog.underlying k = some (.int .i64))
    (hw : ∀ p ∈ lo, (Lit.int .i64 p.1).wf = true) (hn : lo.length ≤ 1000000) : ∃ D : DataW Nat, w.ownsMap Try.prog k (fun _ => some (.lit (.bool true), [])) b lo.length D ∧ Maps.size D = lo.length ∧ (intKeys D).Perm (lo.map (·.1)) := by
  have hkey : ∀ x ∈ es.toList, ∃ p ∈ lo, x.key = .int .i64 p.1 := fun x hx => by
    have : x.key ∈ es.toList.map (·.key) := List.mem_map.2 ⟨x, hx, rfl⟩
    rw [h.keys] at this
    obtain ⟨p, hp, e⟩ := List.mem_map.1 this
    exact ⟨p, hp, e.symm⟩
  have hrd : ∀ x ∈ es.toList, ∃ p ∈ lo, x.key = .int .i64 p.1 ∧ Go.WideElems.rd (H := Nat) Try.prog k (fun _ => some (.lit (.bool true), [])) x = some (.int .i64 p.1, .lit (.bool true)) := fun x hx => by
    obtain ⟨p, hp, e⟩ := hkey x hx
    refine ⟨p, hp, e, ?_⟩
    unfold Go.WideElems.rd
    rw [e, Go.Maps.keyOf_int_mk hk (hw p hp)]; rfl
  have hsz := h.size
  refine ⟨.map ((es.toList.map (Go.WideElems.rg Try.prog k (fun _ => some (.lit (.bool true), [])))).foldr DataW.insert []), ⟨es, c, hb, ⟨by rw [hsz]; simp only [maxLen]; omega, h.2, fun x hx => by obtain ⟨p, _, _, e⟩ := hrd x hx; exact ⟨_, e⟩⟩, by omega, rfl⟩, ?_, ?_⟩
  · show List.length _ = _
    rw [(Go.WideShapes.sorted_perm _).length_eq, List.length_map]; simpa using hsz
  · show (List.map (fun p : Lit × DataW Nat => intOf p.1) _).Perm _
    refine ((Go.WideShapes.sorted_perm _).map _).trans ?_
    rw [List.map_map]
    have e1 : es.toList.map ((fun p : Lit × DataW Nat => intOf p.1) ∘ Go.WideElems.rg Try.prog k (fun _ => some (.lit (.bool true), []))) = es.toList.map (fun x => match x.key with | .int _ a => a | _ => 0) := List.map_congr_left fun x hx => by
      obtain ⟨p, _, e, g⟩ := hrd x hx
      show intOf (Go.WideElems.rg _ _ _ x).1 = _
      unfold Go.WideElems.rg
      rw [g, e]; rfl
    have e2 : es.toList.map (fun x => match x.key with | .int _ a => a | _ => 0) = lo.map (·.1) := by
      have := congrArg (List.map (fun v : Value => match v with | .int _ a => a | _ => (0 : Int))) h.keys
      rw [List.map_map, List.map_map] at this
      exact this
    rw [e1, e2]
theorem skeys_c {E w : World} {R : List Hp} {b mb c : Nat} {es : Array MapEntry} {lo : List (Int × Bs)} {f : Bs → Value} (H : Has E w [[Hp.one b (.cells #[.map (some mb)] 135 (0, 0))], [Hp.one mb (.map es c)], R]) (hm : MapV iV f es c lo)
    (hw : ∀ p ∈ lo, (Lit.int .i64 p.1).wf = true) (hn : lo.length ≤ 1000000) :
    Calls Try.prog 88 #[.func (.func 124) #[] #[.pointer (some ⟨b, 0, none⟩)]] w fun e w' => ∃ v hs, e = .returned v ∧ Own 3 1 v (keysS lo).length ((keysS lo).map iV) hs ∧ Has E w' [hs, [Hp.one b (.cells #[.map (some mb)] 135 (0, 0))], [Hp.one mb (.map es c)], R] := by
  have hb1 : w.heap[b]? = some (.cells #[.map (some mb)] 135 (0, 0)) := H.at (h := Hp.one b (.cells #[.map (some mb)] 135 (0, 0))) (by simp) (Hp.one_at _ _)
  have hb2 : w.heap[mb]? = some (.map es c) := H.at (h := Hp.one mb (.map es c)) (by simp) (Hp.one_at _ _)
  obtain ⟨D, hown, hsz, hperm⟩ := hm.owns hb2 (k := 3) Try.underlying3 hw hn
  have hlt : b < w.heap.size := (Array.getElem?_eq_some_iff.1 hb1).1
  have hseq : SeqGives Fence.wide 2 Try.prog 124 #[.pointer (some ⟨b, 0, none⟩)] encZ (fun ss => ss.Perm (intKeys D)) (Maps.size D) w :=
    AnyZI.keys_gives (ρ := kyl_ren) { kyl with } Fence.wide _ trivial rfl (by omega) b mb lo.length D w hlt (by simp [World.cell?, hb1]) hown
  have hs := AnyZI.sorted_in stl Fence.wide 5 trivial trivial trivial trivial rfl (by omega) (srl_in _) (enters_of Try.func123 (by kernel_rfl) rfl) 124 #[.pointer (some ⟨b, 0, none⟩)] trivial (enters_of Try.func124 (by kernel_rfl) rfl) _ (Maps.size D) (by simp only [maxLen]; omega) (by omega) w hseq
  refine (callsIn_wide.1 hs).mono fun e w' ⟨v, ss, he, hp, hrow, _, hbl⟩ => ?_
  obtain ⟨hs', ho, hH⟩ := H.row hbl hrow
  have e1 : ss.mergeSort (fun x y => decide (x ≤ y)) = keysS lo := mergeSort_of_perm_i (hp.trans hperm)
  have hl : ss.length = (keysS lo).length := by rw [← e1, List.length_mergeSort]
  rw [e1, hl] at ho
  exact ⟨v, hs', he, ho, hH⟩
end Go.Q
