/-
  How arguments read, with the sizes that the form's own reach gives.
-/
import Derived.Test.YtcffibbdbalmjaaQY
import Derived.SizedLaws
set_option linter.unusedVariables false
set_option linter.unusedSimpArgs false
namespace Go.Q
section
variable {H : Type} {enc : TypeId × Value → H} {P : Program} {w : World} {t e : TypeId} {cs : List Value}
/-- These cells read as a value of the type, and each text and row in it is within the reach. -/
def RdS (enc : TypeId × Value → H) (P : Program) (w : World) (t : TypeId) (cs : List Value) : Prop := ∃ fuel x, DataW.trod enc P w 0 (fun _ => true) true fuel t cs = some x ∧ ∀ n ∈ DataW.weights P t x.1, n ≤ reachBytes
theorem RdS.rd (h : RdS enc P w t cs) : Rd enc P w t cs := let ⟨f, x, h, _⟩ := h; ⟨f, x, h⟩
theorem rds_of {v : Value} {d : DataW H} {ps : List MemPlace} (h : DataW.Trod enc P w 0 (fun _ => true) true t v d ps) {ts : List TypeId} {ds : List (DataW H)} (hs : (DataW.weightsEach P ts ds).all (· ≤ reachBytes) = true) {j : Nat} (ht : ts[j]? = some t) (hd : ds[j]? = some d) : RdS enc P w t v.cells.toList :=
  ⟨h.choose, _, h.choose_spec, fun n hn => by simpa using List.all_eq_true.1 hs n (DataW.weights_mem_each ht hd n hn)⟩
theorem rds_string (ht : P.underlying t = some .string) (h : RdS enc P w t cs) : ∃ l : List UInt8, cs = [S l] ∧ l.length ≤ 140737488355328 := by
  obtain ⟨f, x, h, hw⟩ := h
  obtain ⟨s, h1, hx, _⟩ := DataW.trod_string ht h
  refine ⟨s.data.toList, by rw [h1, S_of], ?_⟩
  have := hw s.data.toList.length (by rw [hx]; simp [DataW.weights])
  have := reachBytes_lt
  omega
theorem mem_all {H : Type} {P : Program} {t : TypeId} : ∀ {ds : List (DataW H)} {d : DataW H}, d ∈ ds → ∀ n ∈ DataW.weights P t d, n ∈ DataW.weightsAll P t ds
  | d0 :: ds, d, h, n, hn => by
    simp only [DataW.weightsAll, List.mem_append]
    rcases List.mem_cons.1 h with rfl | h
    · exact .inl hn
    · exact .inr (mem_all h n hn)
theorem rds_struct {fs : Array Field} (ht : P.underlying t = some (.struct fs)) (h : RdS enc P w t cs) :
    cs.length = P.cellsOf t ∧ ∀ (i : Nat) (f : Field), fs[i]? = some f → RdS enc P w f.type ((cs.drop f.offset).take (P.cellsOf f.type)) := by
  obtain ⟨f, x, h, hw⟩ := h
  obtain ⟨xs, n, _, hx, h1, h2, h3⟩ := DataW.trod_struct ht h
  refine ⟨h1, fun i f hf => ?_⟩
  have hi : i < xs.length := by rw [h2]; exact (Array.getElem?_eq_some_iff.1 hf).1
  refine ⟨n, xs[i], by rw [h3 i f hf, List.getElem?_eq_getElem hi], fun m hm => hw m ?_⟩
  rw [hx]
  simp only [DataW.weights, ht]
  refine DataW.weights_mem_each (j := i) (t := f.type) (d := xs[i].1) ?_ ?_ m hm
  · rw [List.getElem?_map]; simpa using congrArg (Option.map (·.type)) hf
  · rw [List.getElem?_map, List.getElem?_eq_getElem hi]; rfl
theorem rds_field {fs : Array Field} {i k : Nat} {f : Field} {T : TypeId} {ds : List Value} (hf : ∀ (i : Nat) (f : Field), fs[i]? = some f → RdS enc P w f.type ((cs.drop f.offset).take (P.cellsOf f.type)))
    (h : fs[i]? = some f) (hT : f.type = T) (hc : P.cellsOf T = k) (hd : (cs.drop f.offset).take k = ds) : RdS enc P w T ds := by
  have g := hf i f h
  rw [hT, hc, hd] at g
  exact g
theorem rds_slice (ht : P.underlying t = some (.slice e)) (h : RdS enc P w t cs) :
    cs = [.slice none 0 0] ∨ ∃ a len cap, cs = [.slice (some a) len cap] ∧ len ≤ cap ∧ cap ≤ 9223372036854775807 ∧ len * P.bytesOf e ≤ 140737488355328 ∧
      ∀ i, i < len → ∃ r : List Value, r.length = P.cellsOf e ∧ RdS enc P w e r ∧ ∀ j, j < P.cellsOf e → w.cell? (a.add (i * P.cellsOf e + j)) = r[j]? := by
  obtain ⟨f, x, h, hw⟩ := h
  rcases DataW.trod_slice ht h with ⟨h, _⟩ | ⟨a, len, cap, elems, rest, n, _, h1, hx, _, h2, h3, h4, h5, _⟩
  · exact .inl h
  · refine .inr ⟨a, len, cap, h1, h2, by simpa [maxLen] using h3, ?_, fun i hi => ?_⟩
    · have h9 := hw (((elems.map (·.1)).length + (rest.map (·.1)).length) * P.bytesOf e) (by rw [hx]; simp [DataW.weights, ht])
      have h8 : len * P.bytesOf e ≤ ((elems.map (·.1)).length + (rest.map (·.1)).length) * P.bytesOf e := Nat.mul_le_mul_right _ (by rw [List.length_map]; omega)
      have := reachBytes_lt
      omega
    · have hb := h5 i hi
      rw [List.getElem?_eq_getElem (by omega)] at hb
      obtain ⟨r, hr, hd⟩ := Option.bind_eq_some_iff.1 hb
      obtain ⟨_, g1, g2⟩ := World.cells?_some hr
      refine ⟨r, g1, ⟨n, _, hd, fun m hm => hw m ?_⟩, fun j hj => ?_⟩
      · rw [hx]
        simp only [DataW.weights, ht]
        refine List.mem_cons_of_mem _ (List.mem_append_left _ (mem_all (d := (elems[i]'(by omega)).1) ?_ m hm))
        exact List.mem_map.2 ⟨_, List.getElem_mem _, rfl⟩
      · rw [← g2 j hj, Addr.add_add]
theorem rds_rows {α : Type} {f : α → List Value} {Good : α → Prop} {sz : Nat} (ht : P.underlying t = some (.slice e)) (hc : P.cellsOf e = sz) (h0 : 0 < sz) (hf : ∀ a, (f a).length = sz)
    (each : ∀ r, RdS enc P w e r → ∃ a, r = f a ∧ Good a) (h : RdS enc P w t cs) : ∃ (v : Value) (l : List α), cs = [v] ∧ Sl [Hp.of w] sz v l.length (l.flatMap f) ∧ (∀ a ∈ l, Good a) ∧ l.length * P.bytesOf e ≤ 140737488355328 := by
  subst hc
  rcases rds_slice ht h with rfl | ⟨a, len, cap, rfl, h1, h2, hby, h3⟩
  · exact ⟨_, [], rfl, ⟨none, 0, rfl, Nat.le_refl _, by omega, by simp, fun g => by simp at g⟩, fun a ha => (by cases ha), by simp⟩
  · have key : ∀ k, k ≤ len → ∃ l : List α, l.length = k ∧ (∀ a ∈ l, Good a) ∧ ∀ i v, (l.flatMap f)[i]? = some v → w.cell? (a.add i) = some v := by
      intro k
      induction k with
      | zero => intro _; exact ⟨[], rfl, fun a ha => (by cases ha), fun i v hv => by simp at hv⟩
      | succ k ih =>
        intro hk
        obtain ⟨l, hl, hg, hcell⟩ := ih (by omega)
        obtain ⟨r, hr, hd, hrc⟩ := h3 k (by omega)
        obtain ⟨y, rfl, hy⟩ := each r hd
        refine ⟨l ++ [y], by simp [hl], fun a ha => ?_, fun i v hv => ?_⟩
        · rcases List.mem_append.1 ha with g | g
          · exact hg a g
          · rw [List.mem_singleton.1 g]; exact hy
        · rw [List.flatMap_append, List.flatMap_cons, List.flatMap_nil, List.append_nil] at hv
          have hlen := flat_len hf l
          rcases Nat.lt_or_ge i (l.flatMap f).length with g | g
          · rw [List.getElem?_append_left g] at hv; exact hcell i v hv
          · rw [List.getElem?_append_right g] at hv
            have hj : i - (l.flatMap f).length < P.cellsOf e := by rw [← hr]; exact (List.getElem?_eq_some_iff.1 hv).1
            have := hrc (i - (l.flatMap f).length) hj
            rw [hv] at this
            rw [← this]; congr 2
            rw [hlen, hl] at g hj ⊢; omega
    obtain ⟨l, hl, hg, hcell⟩ := key len (Nat.le_refl _)
    refine ⟨_, l, rfl, ⟨some a, cap, by rw [hl], by omega, h2, flat_len hf l, fun g => ?_⟩, hg, by rw [hl]; exact hby⟩
    obtain ⟨b, off, rfl, hc⟩ := cells_row (w := w) (x := a) (vs := l.flatMap f) (by rw [flat_len hf l]; exact Nat.mul_pos g h0) hcell
    exact ⟨b, off, rfl, hc⟩
theorem rds_row1 {α : Type} {f : α → Value} {Good : α → Prop} (ht : P.underlying t = some (.slice e)) (hc : P.cellsOf e = 1)
    (each : ∀ r, RdS enc P w e r → ∃ a, r = [f a] ∧ Good a) (h : RdS enc P w t cs) : ∃ (v : Value) (l : List α), cs = [v] ∧ Sl [Hp.of w] 1 v l.length (l.map f) ∧ (∀ a ∈ l, Good a) ∧ l.length * P.bytesOf e ≤ 140737488355328 := by
  obtain ⟨v, l, h1, h2, h3⟩ := rds_rows (f := fun a => [f a]) ht hc (by omega) (fun _ => rfl) each h
  exact ⟨v, l, h1, by rw [flat_one] at h2; exact h2, h3⟩
theorem rds_strings (ht : P.underlying t = some (.slice e)) (he : P.underlying e = some .string) (hc : P.cellsOf e = 1) (h : RdS enc P w t cs) : ∃ (v : Value) (l : List (List UInt8)), cs = [v] ∧ Sl [Hp.of w] 1 v l.length (l.map sV) ∧ (∀ a ∈ l, a.length ≤ 140737488355328) ∧ l.length * P.bytesOf e ≤ 140737488355328 :=
  rds_row1 (f := sV) ht hc (fun r hr => rds_string he hr) h
end
end Go.Q
