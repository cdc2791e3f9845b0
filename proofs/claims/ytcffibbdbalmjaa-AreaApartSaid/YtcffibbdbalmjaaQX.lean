/-
  Rows of structs: elements of a few cells each.
-/
import Derived.Test.YtcffibbdbalmjaaQJ
set_option linter.unusedVariables false
set_option linter.unusedSimpArgs false
namespace Go.Q
theorem flat_len {α : Type} {f : α → List Value} {sz : Nat} (hf : ∀ a, (f a).length = sz) : ∀ l : List α, (l.flatMap f).length = l.length * sz
  | [] => by simp
  | a :: l => by rw [List.flatMap_cons, List.length_append, hf, flat_len hf l, List.length_cons, Nat.succ_mul, Nat.add_comm]
theorem flat_part {α : Type} {f : α → List Value} {sz : Nat} (hf : ∀ a, (f a).length = sz) : ∀ (l : List α) (i : Nat) (x : α), l[i]? = some x → ((l.flatMap f).drop (i * sz)).take sz = f x
  | [], i, x, h => by simp at h
  | a :: l, 0, x, h => by
    have e : a = x := by simpa using h
    subst e
    rw [List.flatMap_cons, Nat.zero_mul, List.drop_zero, List.take_append_of_le_length (by rw [hf]; exact Nat.le_refl _), List.take_of_length_le (by rw [hf]; exact Nat.le_refl _)]
  | a :: l, i + 1, x, h => by
    rw [List.flatMap_cons, Nat.succ_mul, List.drop_append, List.drop_of_length_le (by rw [hf]; omega), List.nil_append, hf, Nat.add_sub_cancel]
    exact flat_part hf l i x (by simpa using h)
theorem Own.appF {α : Type} {f : α → List Value} {e : TypeId} {sz n m : Nat} {v : Value} {a b : List α} {hs : List Hp} (H : Own e sz v (n + m) (a.flatMap f ++ b.flatMap f) hs) (hn : n = a.length := by rfl) (hm : m = b.length := by rfl) :
    Own e sz v (a ++ b).length ((a ++ b).flatMap f) hs := by
  subst hn hm
  rw [List.length_append, List.flatMap_append]; exact H
theorem sl_litF {α : Type} {f : α → List Value} {sz : Nat} {l : List α} {b : Nat} {c : Array Value} {T : TypeId} {g : Nat × Nat} {n : Nat} (hf : ∀ a, (f a).length = sz) (hc : c.toList = l.flatMap f) (hn : l.length = n) (hm : n ≤ 9223372036854775807) :
    Sl [Hp.one b (.cells c T g)] sz (.slice (some ⟨b, 0, none⟩) n n) l.length (l.flatMap f) := by
  subst hn
  exact ⟨_, _, rfl, Nat.le_refl _, hm, flat_len hf l, fun _ => ⟨b, 0, rfl, CellsAt.one (by rw [hc, List.drop_zero, List.take_length])⟩⟩
theorem one_flat {α : Type} {f : α → List Value} (h1 : ∀ a, ∀ u ∈ f a, u.oneCell' = true) (l : List α) : ∀ u ∈ l.flatMap f, u.oneCell' = true := fun u hu => by
  obtain ⟨a, _, h⟩ := List.mem_flatMap.1 hu
  exact h1 a u h
theorem CellsAt.field {L : List Hp} {b off k : Nat} {cs ds : List Value} (H : CellsAt L b off cs) (h : (cs.drop k).take ds.length = ds) : CellsAt L b (off + k) ds :=
  H.sub fun j v hv => by
    rw [← h, List.getElem?_take] at hv
    split at hv
    · rw [List.getElem?_drop] at hv; exact hv
    · cases hv
section ops
variable {P : Program} {ρ : Operand → Value} {E w : World} {ss : List (List Hp)} {K : Value → World → Prop} {dst : Option Tmp} {T : TypeId} {pos : String} {after : Array Edge} {g : Option (Nat × Bool)}
theorem o_indexF {α : Type} {f : α → List Value} {l : List α} {a : α} {x y : Operand} {t e : TypeId} {L : List Hp} {sz n by_ : Nat} {v z : Value} {k : IntKind} {i : Int} (hf : ∀ a, (f a).length = sz) (ht : P.underlying t = some (.slice e)) (hi : TI P e z sz by_)
    (hx : ρ x = v) (hs : Sl L sz v n (l.flatMap f)) (hn : n = l.length) (hy : ρ y = .int k i) (h0 : 0 ≤ i) (ha : l[i.toNat]? = some a) (hK : ∀ b off, CellsAt L b off (f a) → K (.pointer (some ⟨b, off, none⟩)) w) :
    OK P ⟨dst, .indexAddr t x y, T, pos, after, g⟩ ρ w K := by
  have hlt := (List.getElem?_eq_some_iff.1 ha).1
  refine o_indexAddr ht hi hx hs hy h0 (by omega) fun b off hc => hK b off ?_
  rw [flat_part hf l i.toNat a ha] at hc
  exact hc
end ops
/-- heaplets taken out one by one -/
def pickL : List Nat → List (List Hp) → List (List Hp)
  | [], _ => []
  | c :: cs, ss => match ss[c]? with | some s => s :: pickL cs (ss.eraseIdx c) | none => []
theorem pickL_sub : ∀ (cs : List Nat) (ss : List (List Hp)), ∃ rest, ss.Perm (pickL cs ss ++ rest)
  | [], ss => ⟨ss, List.Perm.refl _⟩
  | c :: cs, ss => by
    unfold pickL
    split
    · rename_i s hs
      obtain ⟨rest, h⟩ := pickL_sub cs (ss.eraseIdx c)
      have hf := perm_front c ss
      unfold Q.front at hf
      rw [hs] at hf
      exact ⟨rest, hf.symm.trans (by rw [List.cons_append]; exact h.cons s)⟩
    · exact ⟨ss, List.Perm.refl _⟩
theorem Has.pick {E w : World} {ss ts : List (List Hp)} (H : Has E w ss) (cs : List Nat) (h : pickL cs ss = ts) : Has E w ts := by
  subst h
  obtain ⟨rest, h⟩ := pickL_sub cs ss
  exact (H.perm h.symm).sub (List.sublist_append_left _ _)
/-- one cell of the front block, written -/
theorem Has.set1 {E w : World} {ss : List (List Hp)} {b off : Nat} {c : Array Value} {U : TypeId} {v : Value} (hlt : off < c.size) (H : Has E w ([Hp.one b (.cells c U (0, 0))] :: ss)) :
    Has E (w.setCell ⟨b, off, none⟩ v) ([Hp.one b (.cells (c.setIfInBounds off v) U (0, 0))] :: ss) := by
  have hwb : w.heap[b]? = some (.cells c U (0, 0)) := H.at (h := Hp.one b (.cells c U (0, 0))) (by simp) (Hp.one_at _ _)
  refine Has0.write (as := [Hp.one b (.cells c U (0, 0))]) (as' := [Hp.one b (.cells (c.setIfInBounds off v) U (0, 0))]) (hs := ss.flatten) H rfl rfl rfl (by simp) ?_ ?_ ?_
  · intro k hk
    have hk := hk _ (List.mem_singleton.2 rfl)
    refine .inl fun h hh => ?_
    rw [List.mem_singleton.1 hh]
    unfold Hp.one at hk ⊢
    split at hk
    · cases hk
    · rw [if_neg (by assumption)]
  · intro h hh k o hk
    rw [List.mem_singleton.1 hh] at hk
    obtain ⟨rfl, rfl⟩ := Hp.one_some hk
    simp only [World.setCell, Array.getElem?_modify]
    simp [hwb]
  · intro k _ hk
    have hk := hk _ (List.mem_singleton.2 rfl)
    have : k ≠ b := by rintro rfl; rw [Hp.one_at] at hk; cases hk
    simp only [World.setCell, Array.getElem?_modify]
    rw [if_neg (by omega)]
def setFrom (c : Array Value) (k : Nat) : List Value → Array Value
  | [] => c
  | v :: vs => setFrom (c.setIfInBounds k v) (k + 1) vs
theorem run_stores {P : Program} {E : World} {ss : List (List Hp)} {b off : Nat} {U : TypeId} : ∀ (vs : List Value) (i : Nat) (c : Array Value) (w : World), Has E w ([Hp.one b (.cells c U (0, 0))] :: ss) → off + i + vs.length ≤ c.size → (∀ v ∈ vs, v.oneCell' = true) →
    ∃ w', (storeCells ⟨b, off, none⟩ vs i).run P w = .ok () w' ∧ Has E w' ([Hp.one b (.cells (setFrom c (off + i) vs) U (0, 0))] :: ss)
  | [], i, c, w, H, _, _ => ⟨w, rfl, H⟩
  | v :: vs, i, c, w, H, hl, h1 => by
    have hlt : off + i < c.size := by simp only [List.length_cons] at hl; omega
    have hwb : w.heap[b]? = some (.cells c U (0, 0)) := H.at (h := Hp.one b (.cells c U (0, 0))) (by simp) (Hp.one_at _ _)
    have hcell : w.cell? ⟨b, off + i, none⟩ = some c[off + i] := by rw [cell_of_row w b (off + i) c U (0, 0) hwb]; simp [hlt]
    have hfz : w.frozen? ⟨b, off + i, none⟩ = false := by simp [World.frozen?, hwb]
    obtain ⟨w', hr, H'⟩ := run_stores (b := b) (off := off) (U := U) vs (i + 1) (c.setIfInBounds (off + i) v) (w.setCell ⟨b, off + i, none⟩ v) (H.set1 hlt) (by simp only [Array.size_setIfInBounds, List.length_cons] at hl ⊢; omega) (fun u hu => h1 u (List.mem_cons_of_mem _ hu))
    refine ⟨w', ?_, H'⟩
    have h1v := h1 v (List.mem_cons_self ..)
    simp only [storeCells, Sem.run_bind, add_lit, run_store P w ⟨b, off + i, none⟩ v .plain h1v, hcell, hfz]
    simpa using hr
section ops
variable {P : Program} {ρ : Operand → Value} {E w : World} {ss : List (List Hp)} {K : Value → World → Prop} {dst : Option Tmp} {T : TypeId} {pos : String} {after : Array Edge} {g : Option (Nat × Bool)}
theorem o_storeN {x y : Operand} {t : TypeId} {b off sz : Nat} {c c' : Array Value} {U : TypeId} {v z : Value} {vs : List Value} {by_ : Nat} (hi : TI P t z sz by_) (hx : ρ x = .pointer (some ⟨b, off, none⟩)) (hy : ρ y = v)
    (hv : v.cells = vs.toArray) (hn : vs.length = sz) (h1 : ∀ u ∈ vs, u.oneCell' = true) (hlt : off + sz ≤ c.size) (hc : setFrom c off vs = c') (H : Has E w ([Hp.one b (.cells c U (0, 0))] :: ss))
    (hK : ∀ w', Has E w' ([Hp.one b (.cells c' U (0, 0))] :: ss) → K undef w') : OK P ⟨dst, .store t x y, T, pos, after, g⟩ ρ w K := by
  obtain ⟨w', hr, H'⟩ := run_stores (P := P) (b := b) (off := off) (U := U) vs 0 c w H (by omega) h1
  refine OK.skip (w' := w') (run_u ?_) (hK _ (by rw [← hc]; exact H'))
  rw [hx, hy]
  simp only [Instr.storeAt, Instr.sureAddr, Sem.run_bind, Sem.run_pure, Result.andThen_ok, storeVar, hi.size, hv]
  simpa [hn] using hr
end ops
theorem wrap_u64 (x : Int) : 0 ≤ IntKind.wrap .u64 x ∧ IntKind.wrap .u64 x < 18446744073709551616 := by
  simp only [IntKind.wrap, IntKind.bits, IntKind.signed]
  simp
  constructor
  · exact Int.emod_nonneg _ (by decide)
  · exact Int.emod_lt_of_pos _ (by decide)
/-- A time of a key. -/
def tmC (p : Int × Int) : List Value := [iV p.1, iV p.2]
/-- An act of layer 9. -/
structure ActL where
  kind : Int
  stream : Int
  page : Int
  txn : Int
  n : Int
  more : Value
  ml : List Int
def actC (a : ActL) : List Value := [iV a.kind, iV a.stream, iV a.page, iV a.txn, iV a.n, a.more]
theorem actC_len (a : ActL) : (actC a).length = 6 := rfl
theorem tmC_len (a : Int × Int) : (tmC a).length = 2 := rfl
/-- An act whose row of numbers reads. -/
def ActOk (R : List Hp) (a : ActL) : Prop := (∀ x ∈ [a.kind, a.stream, a.page, a.txn, a.n], (-9223372036854775808 : Int) ≤ x ∧ x ≤ 9223372036854775807) ∧ Ints R a.more a.ml ∧ ∀ x ∈ a.ml, (-9223372036854775808 : Int) ≤ x ∧ x ≤ 9223372036854775807
theorem one_tm (l : List (Int × Int)) : ∀ u ∈ l.flatMap tmC, u.oneCell' = true := one_flat (fun p u hu => by
  rcases List.mem_cons.1 hu with e | hu
  · rw [e]; rfl
  · rw [List.mem_singleton.1 hu]; rfl) l
end Go.Q
