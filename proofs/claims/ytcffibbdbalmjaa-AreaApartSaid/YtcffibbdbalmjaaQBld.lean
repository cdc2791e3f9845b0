/-
  strings.Builder's operations: a text's bytes appended to a row of one's own; a row's bytes as a text.
-/
import Derived.Test.YtcffibbdbalmjaaQK
import Derived.Test.YtcffibbdbalmjaaQX
import Derived.Lib.AppendStr
import Derived.Lib.UnsafeStr
import Derived.Lib.Builder
set_option linter.unusedVariables false
set_option linter.unusedSimpArgs false
namespace Go.Q
open Go.RowKit
section
variable {P : Program} {ρ : Operand → Value} {E w : World} {ss : List (List Hp)} {K : Value → World → Prop} {dst : Option Tmp} {T : TypeId} {pos : String} {after : Array Edge} {g : Option (Nat × Bool)}
theorem strCells_S (l : List UInt8) : Lib.strCells ⟨l.toArray⟩ = l.map bV := rfl
theorem o_appstr {x y : Operand} {t u e : TypeId} {v : Value} {n : Nat} {cs : List Value} {hs : List Hp} {l : List UInt8} (ht : P.underlying t = some (.slice e)) (hu : P.underlying u = some .string) (hi : TI P e (.int .u8 0) 1 1)
    (hx : ρ x = v) (ho : Own e 1 v n cs hs) (hy : ρ y = S l) (H : Has E w (hs :: ss)) (hb : n + l.length ≤ 140737488355328)
    (hK : ∀ v' hs' w', Own e 1 v' (n + l.length) (cs ++ l.map bV) hs' → (v = .slice none 0 0 → l = [] → v' = .slice none 0 0) → Has E w' (hs' :: ss) → K v' w') :
    OK P ⟨dst, .call ⟨.builtin .append, #[x, y], #[t, u]⟩, T, pos, after, g⟩ ρ w K := by
  obtain ⟨i, hi, hiz, hisz, hiby⟩ := hi
  have hsz : (⟨l.toArray⟩ : ByteArray).size = l.length := by simp [ByteArray.size]
  have hrow := ho.row H
  obtain ⟨v', w', hr, ho', hg, hnil⟩ := Lib.run_append_own_string w 0 t u T e i ht hu hi hiz hisz hiby v n cs hrow ⟨l.toArray⟩ (by rw [hsz]; unfold maxLen; omega) (by rw [hsz]; omega) (Nat.zero_le _)
  have hloc : v'.ownBlock = v.ownBlock ∨ v'.ownBlock = some w.heap.size := by
    obtain ⟨hlc, ⟨rfl, rfl, rfl⟩ | ⟨b, cap, cur, rfl, rfl, hnc, hcm, hcs, htake⟩⟩ := ho
    · by_cases hm : l.length = 0
      · exact .inl (by rw [hnil.2 ⟨rfl, by rw [hsz]; exact hm⟩])
      · have hr2 := run_append_nil_string (P := P) w t u T e i (.int .u8 0) ht hu hi hiz ⟨l.toArray⟩ (by rw [hsz]; omega) (by rw [hsz]; omega) (by rw [hsz, hiby]; omega)
        rw [hr2] at hr
        injection hr with e1 e2
        exact .inr (by rw [← e1]; rfl)
    · have hg0 : w.heap[b]? = some (.cells cur e (0, 0)) := H.at (by simp) (Hp.one_at _ _)
      by_cases hroom : n + (⟨l.toArray⟩ : ByteArray).size ≤ cap
      · have hr2 := Lib.run_append_room_string (P := P) w t u T e i ht hu hi hisz b n cap cur hg0 ⟨l.toArray⟩ hroom (by omega)
        rw [hr2] at hr
        injection hr with e1 e2
        exact .inl (by rw [← e1]; rfl)
      · have holds : ∀ j x, cs[j]? = some x → w.cell? ((⟨b, 0, none⟩ : Addr).add j) = some x := hrow.cells (g := b) rfl
        have hr2 := Lib.run_append_grow_string (P := P) w t u T e i (.int .u8 0) ht hu hi hiz ⟨b, 0, none⟩ n cap cs (by rw [hisz]; simpa using hlc) holds ⟨l.toArray⟩ (by omega) (by rw [hsz]; omega) (by rw [hiby]; exact growslice_fits (by omega) (by rw [hsz]; omega))
        rw [hr2] at hr
        injection hr with e1 e2
        exact .inr (by rw [← e1]; rfl)
  rw [hsz, strCells_S] at ho'
  obtain ⟨hs', hown, hH⟩ := ho.turn H ho' hg hloc
  refine o_call_builtin (v := v') (w' := w') ?_ (hK v' hs' w' hown (fun h1 h2 => hnil.2 ⟨h1, by rw [h2]; rfl⟩) hH)
  have hyy : ρ y = .string ⟨l.toArray⟩ := hy
  simp only [hx, hyy, builtin, List.map_toArray, List.map_cons, List.map_nil, Sem.run_bind, hr, Result.andThen_ok, Sem.run_pure]
/-- unsafe.SliceData of no row, of a row -/
theorem o_uSDnil {x : Operand} {t : TypeId} {n c : Nat} (hx : ρ x = .slice none n c) (h : K (.pointer none) w) : OK P ⟨dst, .call ⟨.builtin .unsafeSliceData, #[x], #[t]⟩, T, pos, after, g⟩ ρ w K := by
  refine o_call_builtin (v := .pointer none) (w' := w) ?_ h
  simp [hx, builtin, Lib.run_unsafeSliceData_nil]
theorem o_uSD {x : Operand} {t : TypeId} {a : Addr} {n c : Nat} (hx : ρ x = .slice (some a) n c) (hc : c ≠ 0) (h : K (.pointer (some a)) w) : OK P ⟨dst, .call ⟨.builtin .unsafeSliceData, #[x], #[t]⟩, T, pos, after, g⟩ ρ w K := by
  refine o_call_builtin (v := .pointer (some a)) (w' := w) ?_ h
  simp [hx, builtin, Lib.run_unsafeSliceData_row w _ _ a n c hc]
theorem Has.freeze {E w : World} {hs : List Hp} {ss : List (List Hp)} {b : Nat} {o : Obj} (H : Has E w (hs :: ss)) (hh : hs = [Hp.one b o]) (n : Nat) : Has E (w.freeze ⟨b, 0, none⟩ n) ss := by
  subst hh
  have h0 : Has0 E w ([Hp.one b o] ++ ss.flatten) := by simpa [Has] using H
  have h1 : Has0 E (w.freeze ⟨b, 0, none⟩ n) ([] ++ ss.flatten) := by
    unfold World.freeze
    split
    · exact h0.weak (by simp)
    · refine Has0.write (as := [Hp.one b o]) (as' := []) h0 rfl rfl rfl (by simp) (fun k _ => .inl (by simp)) (by simp) fun k hk hn => ?_
      have hne : b ≠ k := fun e => by
        have := hn _ (List.mem_singleton.2 rfl)
        rw [← e, Hp.one_at] at this; cases this
      simp only [Array.getElem?_modify]
      rw [if_neg (fun e => hne e)]
  simpa [Has] using h1
/-- unsafe.String of a row's bytes -/
theorem o_uStrNil {x y : Operand} {t u : TypeId} {p : Option Addr} (hx : ρ x = .pointer p) (hy : ρ y = .int .i64 0) (h : K (S []) w) : OK P ⟨dst, .call ⟨.builtin .unsafeString, #[x, y], #[t, u]⟩, T, pos, after, g⟩ ρ w K := by
  refine o_call_builtin (v := S []) (w' := w) ?_ h
  simp only [hx, hy, builtin, List.map_toArray, List.map_cons, List.map_nil, Sem.run_bind, Lib.run_unsafeString_none, Result.andThen_ok, Sem.run_pure]; rfl
theorem o_uStr {x y : Operand} {t u e : TypeId} {b cap : Nat} {l : List UInt8} {hs : List Hp} (ht : P.underlying t = some (.pointer e)) (hc : P.cellsOf e = 1) (hx : ρ x = .pointer (some ⟨b, 0, none⟩)) (hy : ρ y = .int .i64 (l.length : Int))
    (ho : Own e 1 (.slice (some ⟨b, 0, none⟩) l.length cap) l.length (l.map bV) hs) (h0 : l ≠ []) (H : Has E w (hs :: ss)) (hK : ∀ w', Has E w' ss → K (S l) w') : OK P ⟨dst, .call ⟨.builtin .unsafeString, #[x, y], #[t, u]⟩, T, pos, after, g⟩ ρ w K := by
  have hrow := ho.row H
  have hcells := hrow.cells (g := b) rfl
  obtain ⟨hlc, ⟨h, _⟩ | ⟨b', cap', cur, h, hhs, hnc, hcm, hcs, _⟩⟩ := ho
  · cases h
  · cases h
    have hg : w.heap[b]? = some (.cells cur e (0, 0)) := H.at (h := Hp.one b (.cells cur e (0, 0))) (by rw [hhs]; simp) (Hp.one_at _ _)
    have hr := Lib.run_unsafeString_row (P := P) w t u T e ht hc b cur.size (by simp [World.shape?, hg]) l h0 (by omega) (by unfold maxLen at hcm; omega) (fun j x hj => hcells j _ (by rw [List.getElem?_map, hj]; rfl))
    refine o_call_builtin (v := S l) (w' := w.freeze ⟨b, 0, none⟩ l.length) ?_ (hK _ (H.freeze hhs _))
    simp only [hx, hy, builtin, List.map_toArray, List.map_cons, List.map_nil, Sem.run_bind, hr, Result.andThen_ok, Sem.run_pure]; rfl
/-- a pointer as unsafe.Pointer, and back -/
theorem shape_of {E w : World} {ss : List (List Hp)} {b : Nat} {cs : Array Value} {T' : TypeId} {f : Nat × Nat} (H : Has E w ss) (hL : [Hp.one b (.cells cs T' f)] ⊆ ss.flatten) : w.shape? b = some (T', cs.size) := by
  have hg : w.heap[b]? = some (.cells cs T' f) := H.at (hL (List.mem_singleton.2 rfl)) (Hp.one_at _ _)
  simp [World.shape?, hg]
theorem o_toUnsafe {x : Operand} {t u te T' : TypeId} {b : Nat} {cs : Array Value} {f : Nat × Nat} {z : Value} {sz by_ : Nat} (ht : P.underlying t = some (.pointer te)) (hu : P.underlying u = some .unsafePointer) (hj : TI P te z sz by_) (hjs : sz ≠ 0) (hx : ρ x = .pointer (some ⟨b, 0, none⟩))
    (H : Has E w ss) (hL : [Hp.one b (.cells cs T' f)] ⊆ ss.flatten) (hc : 0 < cs.size) (h : K (.pointer (some ⟨b, 0, none⟩)) w) : OK P ⟨dst, .convert t u x, T, pos, after, g⟩ ρ w K := by
  obtain ⟨j, hj, _, hsz, _⟩ := hj
  exact OK.val (run_v (by rw [hx]; exact Lib.run_to_unsafe w ⟨b, 0, none⟩ ht hu hj (by rw [hsz]; exact hjs) (shape_of H hL) hc)) h
theorem o_fromUnsafe {x : Operand} {t u te T' : TypeId} {b : Nat} {cs : Array Value} {f : Nat × Nat} {z : Value} {sz by_ : Nat} (ht : P.underlying t = some .unsafePointer) (hu : P.underlying u = some (.pointer te)) (hj : TI P te z sz by_) (hx : ρ x = .pointer (some ⟨b, 0, none⟩))
    (H : Has E w ss) (hL : [Hp.one b (.cells cs T' f)] ⊆ ss.flatten) (hl : liesAt P P.depth T' (cs.size / P.cellsOf T') 0 te 1 = true) (h : K (.pointer (some ⟨b, 0, none⟩)) w) : OK P ⟨dst, .convert t u x, T, pos, after, g⟩ ρ w K := by
  obtain ⟨j, hj, _⟩ := hj
  exact OK.val (run_v (by rw [hx]; exact Lib.run_from_unsafe w ⟨b, 0, none⟩ ht hu hj (shape_of H hL) hl)) h
theorem o_extern {c x : Operand} {f : FuncId} {ts : Array TypeId} {v v' : Value} (hv : ρ c = .func (.func f) #[] #[]) (hx : ρ x = v) (hr : (callFunc f #[v]).run P w = .ok (.value v') w) (h : K v' w) :
    OK P ⟨dst, .call ⟨.value c, #[x], ts⟩, T, pos, after, g⟩ ρ w K := by
  refine OK.val ?_ h
  simp [execOp, resolve, hv, Deferred.ofValue, invoke, hx, hr]
theorem o_pneqSame {x y : Operand} {t te t2 : TypeId} {z : Value} {sz by_ : Nat} {a : Addr} (ht : P.underlying t = some (.pointer te)) (hj : TI P te z sz by_) (hx : ρ x = .pointer (some a)) (hy : ρ y = .pointer (some a)) (h : K (.bool false) w) :
    OK P ⟨dst, .binOp .neq t x y t2, T, pos, after, g⟩ ρ w K := by
  obtain ⟨j, hj, _⟩ := hj
  exact OK.val (run_v (by rw [hx, hy]; exact Lib.run_neq_ptr_same w a ht hj)) h
end
end Go.Q
