/-
  Rows as they lie in a block of one's own: parts, copy, append of zeros, clear, overlaps.
-/
import Derived.Test.YtcffibbdbalmjaaQF
import Derived.Lib.Overlaps
set_option linter.unusedVariables false
set_option linter.unusedSimpArgs false
namespace Go.Q

theorem sl_raw {b o sz n cap : Nat} {c : Array Value} {e : TypeId} {g : Nat × Nat} (hfit : o + n * sz ≤ c.size) (hn : n ≤ cap) (hm : cap ≤ 9223372036854775807) :
    Sl [Hp.one b (.cells c e g)] sz (.slice (some ⟨b, o, none⟩) n cap) n ((c.toList.drop o).take (n * sz)) := by
  refine ⟨_, _, rfl, hn, hm, ?_, fun _ => ⟨b, o, rfl, CellsAt.one ?_⟩⟩
  · rw [List.length_take, List.length_drop, Array.length_toList, Nat.min_eq_left (by omega)]
  · rw [List.length_take, List.length_drop, Array.length_toList, Nat.min_eq_left (by omega)]

/-- cells of the front block, written from a place on -/
theorem Has.setRow {E w : World} {ss : List (List Hp)} {b : Nat} {c c' : Array Value} {e : TypeId} (H : Has E w ([Hp.one b (.cells c e (0, 0))] :: ss)) : Has E (w.setRow b c') ([Hp.one b (.cells c' e (0, 0))] :: ss) := by
  have hwb : w.heap[b]? = some (.cells c e (0, 0)) := H.at (h := Hp.one b (.cells c e (0, 0))) (by simp) (Hp.one_at _ _)
  refine Has0.write (as := [Hp.one b (.cells c e (0, 0))]) (as' := [Hp.one b (.cells c' e (0, 0))]) (hs := ss.flatten) H rfl rfl rfl (by simp) ?_ ?_ ?_
  · intro k hk
    have hk := hk _ (List.mem_singleton.2 rfl)
    refine .inl fun h hh => ?_
    rw [List.mem_singleton.1 hh]
    unfold Hp.one at hk ⊢
    split at hk
    · cases hk
    · rw [if_neg (by assumption)]
  · intro h hh k o hk
    rw [List.mem_singleton.1 hh] at hk
    obtain ⟨rfl, rfl⟩ := Hp.one_some hk
    simp only [World.setRow, Array.getElem?_modify]
    simp [hwb]
  · intro k _ hk
    have hk := hk _ (List.mem_singleton.2 rfl)
    have : k ≠ b := by rintro rfl; rw [Hp.one_at] at hk; cases hk
    simp only [World.setRow, Array.getElem?_modify]
    rw [if_neg (by omega)]

section ops
variable {P : Program} {ρ : Operand → Value} {E w : World} {ss : List (List Hp)} {K : Value → World → Prop} {dst : Option Tmp} {T : TypeId} {pos : String} {after : Array Edge} {g : Option (Nat × Bool)}

theorem o_capO {x : Operand} {t e : TypeId} {p : Option Addr} {n c : Nat} (ht : P.underlying t = some (.slice e)) (hx : ρ x = .slice p n c) (h : K (.int .i64 (c : Int)) w) :
    OK P ⟨dst, .call ⟨.builtin .cap, #[x], #[t]⟩, T, pos, after, g⟩ ρ w K := o_cap ht hx h

/-- s[i:], s[:j], s[i:j], s[i:j:k] of a row in block b -/
theorem o_rsl {x : Operand} {lo hi mx : Option Operand} {t e : TypeId} {z : Value} {sz by_ b o n cap : Nat} {i j m : Int} (ht : P.underlying t = some (.slice e)) (hti : TI P e z sz by_)
    (hx : ρ x = .slice (some ⟨b, o, none⟩) n cap)
    (hr : ∀ w, (Instr.sliceBounds true n cap (lo.map ρ) (hi.map ρ) (mx.map ρ)).run P w = .ok (i.toNat, j.toNat, m.toNat) w)
    (h0 : 0 ≤ i) (h1 : i ≤ j) (h2 : j ≤ m)
    (hK : ∀ o' n' c' : Nat, (n' : Int) = j - i → (c' : Int) = m - i → (0 < c' → o' = o + i.toNat * sz) → K (.slice (some ⟨b, o', none⟩) n' c') w) : OK P ⟨dst, .slice t x lo hi mx, T, pos, after, g⟩ ρ w K := by
  have e1 : P.elem t = e := by simp [Program.elem, ht]
  have hrun : (Instr.sliceAt t (ρ x) (lo.map ρ) (hi.map ρ) (mx.map ρ)).run P w = .ok (sliced (some ⟨b, o, none⟩) i.toNat j.toNat m.toNat sz) w := by
    rw [hx, run_sliceAt_slice _ _ _ _ _ _ (by rw [e1]; exact ht), run_slice_any _ _ _ _ _ (by rw [e1]; exact ht), hr, e1]
    simp only [Result.andThen_ok, hti.size]
  by_cases hmi : m = i
  · have : sliced (some (⟨b, o, none⟩ : Addr)) i.toNat j.toNat m.toNat sz = .slice (some ⟨b, o, none⟩) (j.toNat - i.toNat) (m.toNat - i.toNat) := by
      unfold sliced; rw [if_pos (by rw [hmi])]
    rw [this] at hrun
    exact OK.val (run_v hrun) (hK o _ _ (by omega) (by omega) (by omega))
  · have : sliced (some (⟨b, o, none⟩ : Addr)) i.toNat j.toNat m.toNat sz = .slice (some ⟨b, o + i.toNat * sz, none⟩) (j.toNat - i.toNat) (m.toNat - i.toNat) := by
      unfold sliced; rw [if_neg (by omega)]; simp [add_lit]
    rw [this] at hrun
    exact OK.val (run_v hrun) (hK _ _ _ (by omega) (by omega) (fun _ => rfl))
theorem rsl_ex (o sz : Nat) {i j m : Int} (h0 : 0 ≤ i) (h1 : i ≤ j) (h2 : j ≤ m) :
    ∃ o' n' c' : Nat, (o' = if m = i then o else o + i.toNat * sz) ∧ (n' : Int) = j - i ∧ (c' : Int) = m - i ∧ (0 < c' → o' = o + i.toNat * sz) :=
  ⟨_, (j - i).toNat, (m - i).toNat, rfl, by omega, by omega, fun h => if_neg (by omega)⟩
theorem o_rsl2 {x : Operand} {lo hi mx : Option Operand} {t e : TypeId} {z : Value} {sz by_ b o n cap o' n' c' : Nat} {i j m : Int} (ht : P.underlying t = some (.slice e)) (hti : TI P e z sz by_)
    (hx : ρ x = .slice (some ⟨b, o, none⟩) n cap)
    (hr : ∀ w, (Instr.sliceBounds true n cap (lo.map ρ) (hi.map ρ) (mx.map ρ)).run P w = .ok (i.toNat, j.toNat, m.toNat) w)
    (h0 : 0 ≤ i) (h1 : i ≤ j) (h2 : j ≤ m) (ho : o' = if m = i then o else o + i.toNat * sz) (hn : (n' : Int) = j - i) (hc : (c' : Int) = m - i)
    (hK : K (.slice (some ⟨b, o', none⟩) n' c') w) : OK P ⟨dst, .slice t x lo hi mx, T, pos, after, g⟩ ρ w K := by
  have e1 : P.elem t = e := by simp [Program.elem, ht]
  have hrun : (Instr.sliceAt t (ρ x) (lo.map ρ) (hi.map ρ) (mx.map ρ)).run P w = .ok (sliced (some ⟨b, o, none⟩) i.toNat j.toNat m.toNat sz) w := by
    rw [hx, run_sliceAt_slice _ _ _ _ _ _ (by rw [e1]; exact ht), run_slice_any _ _ _ _ _ (by rw [e1]; exact ht), hr, e1]
    simp only [Result.andThen_ok, hti.size]
  obtain rfl : n' = j.toNat - i.toNat := by omega
  obtain rfl : c' = m.toNat - i.toNat := by omega
  subst ho
  by_cases hmi : m = i
  · have : sliced (some (⟨b, o, none⟩ : Addr)) i.toNat j.toNat m.toNat sz = .slice (some ⟨b, o, none⟩) (j.toNat - i.toNat) (m.toNat - i.toNat) := by
      unfold sliced; rw [if_pos (by rw [hmi])]
    rw [this] at hrun
    rw [if_pos hmi] at hK
    exact OK.val (run_v hrun) hK
  · have : sliced (some (⟨b, o, none⟩ : Addr)) i.toNat j.toNat m.toNat sz = .slice (some ⟨b, o + i.toNat * sz, none⟩) (j.toNat - i.toNat) (m.toNat - i.toNat) := by
      unfold sliced; rw [if_neg (by omega)]; simp [add_lit]
    rw [this] at hrun
    rw [if_neg hmi] at hK
    exact OK.val (run_v hrun) hK
theorem rsl_ex3 (o sz : Nat) {i j m : Int} (h0 : 0 ≤ i) (h1 : i ≤ j) (h2 : j ≤ m) : ∃ o' n' c' : Nat, (o' = o + i.toNat * sz) ∧ (n' : Int) = j - i ∧ (c' : Int) = m - i :=
  ⟨_, (j - i).toNat, (m - i).toNat, rfl, by omega, by omega⟩
theorem off3 {o o' sz : Nat} {i m : Int} (h : o' = o + i.toNat * sz) (hm : i < m) : o' = if m = i then o else o + i.toNat * sz := by rw [if_neg (by omega)]; exact h
theorem bounds_l {n cap : Nat} {k : IntKind} {i : Int} (h0 : 0 ≤ i) (h1 : i ≤ n) (w : World) :
    (Instr.sliceBounds true n cap (some (.int k i)) none none).run P w = .ok (i.toNat, ((n : Int)).toNat, ((cap : Int)).toNat) w := by
  simp [Instr.sliceBounds, run_sliceBound, h0, h1]
theorem bounds_h {n cap : Nat} {k : IntKind} {j : Int} (h0 : 0 ≤ j) (h1 : j ≤ cap) (w : World) :
    (Instr.sliceBounds true n cap none (some (.int k j)) none).run P w = .ok ((0 : Int).toNat, j.toNat, ((cap : Int)).toNat) w := by
  simp [Instr.sliceBounds, run_sliceBound, h0, h1]
theorem bounds_lh {n cap : Nat} {k k' : IntKind} {i j : Int} (h0 : 0 ≤ i) (h1 : i ≤ j) (h2 : j ≤ cap) (w : World) :
    (Instr.sliceBounds true n cap (some (.int k i)) (some (.int k' j)) none).run P w = .ok (i.toNat, j.toNat, ((cap : Int)).toNat) w := by
  have e : ((j.toNat : Nat) : Int) = j := Int.toNat_of_nonneg (by omega)
  simp [Instr.sliceBounds, run_sliceBound, h0, h1, h2, e, (show 0 ≤ j by omega)]
theorem bounds_lhm {n cap : Nat} {k k' k'' : IntKind} {i j m : Int} (h0 : 0 ≤ i) (h1 : i ≤ j) (h2 : j ≤ m) (h3 : m ≤ cap) (w : World) :
    (Instr.sliceBounds true n cap (some (.int k i)) (some (.int k' j)) (some (.int k'' m))).run P w = .ok (i.toNat, j.toNat, m.toNat) w := by
  have e : ((j.toNat : Nat) : Int) = j := Int.toNat_of_nonneg (by omega)
  have e' : ((m.toNat : Nat) : Int) = m := Int.toNat_of_nonneg (by omega)
  simp [Instr.sliceBounds, run_sliceBound, h0, h1, h2, h3, e, e', (show 0 ≤ j by omega), (show 0 ≤ m by omega)]

/-- copy into a block of one's own -/
theorem o_copy {x y : Operand} {t u e : TypeId} {z v : Value} {sz by_ b o n cap m : Nat} {c : Array Value} {ds : List Value} {L : List Hp} (ht : P.underlying t = some (.slice e)) (hi : TI P e z sz by_)
    (hx : ρ x = .slice (some ⟨b, o, none⟩) n cap) (hy : ρ y = v) (hs : Sl L sz v m ds) (H : Has E w ([Hp.one b (.cells c e (0, 0))] :: ss)) (hL : L ⊆ ([Hp.one b (.cells c e (0, 0))] :: ss).flatten)
    (hfit : 0 < min m n → o + min m n * sz ≤ c.size) (h1 : ∀ u ∈ ds.take (min m n * sz), u.oneCell' = true)
    (hK : ∀ c' w', c'.size = c.size → c'.toList = (if 0 < min m n then c.toList.take o ++ ds.take (min m n * sz) ++ c.toList.drop (o + min m n * sz) else c.toList) → Has E w' ([Hp.one b (.cells c' e (0, 0))] :: ss) → K (.int .i64 ((min m n : Nat) : Int)) w') :
    OK P ⟨dst, .call ⟨.builtin .copy, #[x, y], #[t, u]⟩, T, pos, after, g⟩ ρ w K := by
  obtain ⟨p, cap', rfl, hmc, _, hl, hp⟩ := hs
  obtain ⟨i, hi, hiz, rfl, hiby⟩ := hi
  have hwb : w.heap[b]? = some (.cells c e (0, 0)) := H.at (h := Hp.one b (.cells c e (0, 0))) (by simp) (Hp.one_at _ _)
  by_cases hk : 0 < min m n
  · obtain ⟨b', off, rfl, hc⟩ := hp (by omega)
    have hlen : (ds.take (min m n * i.size)).length = min m n * i.size := by
      rw [List.length_take, hl, Nat.min_eq_left (Nat.mul_le_mul_right _ (Nat.min_le_left _ _))]
    have hload := run_loadCells_list (P := P) (w := w) ⟨b', off, none⟩ (ds.take (min m n * i.size)) (fun j v hv => by
      rw [add_lit]
      refine H.cell hL hc ?_
      rw [List.getElem?_take] at hv
      split at hv
      · exact hv
      · cases hv)
    rw [hlen] at hload
    have hst := run_storeCells_at P b o e (ds.take (min m n * i.size)) 0 c w hwb (by rw [hlen]; exact hfit hk) h1
    simp only [Nat.add_zero, hlen] at hst
    refine o_call_builtin (v := .int .i64 ((min m n : Nat) : Int)) (w' := w.setRow b (c.toList.take o ++ ds.take (min m n * i.size) ++ c.toList.drop (o + min m n * i.size)).toArray) ?_ (hK _ _ ?_ (by rw [if_pos hk]) H.setRow)
    · have hmin : m.min n = min m n := rfl
      simp [hx, hy, builtin, Builtin.copy_, run_underlying ht, Builtin.lenOf, Builtin.firstCells, sizeOf, typeInfo, hi, hmin, hload, hst, goInt]
    · have := hfit hk
      simp only [List.size_toArray, List.length_append, List.length_take, List.length_drop, Array.length_toList, hl]
      have h3 : min m n * i.size ≤ m * i.size := Nat.mul_le_mul_right _ (Nat.min_le_left _ _)
      omega
  · have h0 : min m n = 0 := by omega
    refine o_call_builtin (v := .int .i64 ((min m n : Nat) : Int)) (w' := w) ?_ (hK c _ rfl (by rw [if_neg hk]) H)
    have hmin : m.min n = 0 := h0
    cases p with
    | none => simp [hx, hy, builtin, Builtin.copy_, run_underlying ht, Builtin.lenOf, Builtin.firstCells, sizeOf, typeInfo, hi, hmin, h0, goInt, storeCells]
    | some a => simp [hx, hy, builtin, Builtin.copy_, run_underlying ht, Builtin.lenOf, Builtin.firstCells, sizeOf, typeInfo, hi, hmin, h0, goInt, storeCells, loadCells, loadCellsFrom]

/-- append(s, make(S, m)...) where there is no room -/
theorem o_appmake {x y : Operand} {t u e : TypeId} {z : Value} {sz by_ n cap m : Nat} {kk k : IntKind} {q : Int} {cs : List Value} {L : List Hp} {p : Option Addr} (ht : P.underlying t = some (.slice e)) (hu : P.underlying u = some (.int kk)) (hi : TI P e z sz by_)
    (hz : z.cells.size = sz) (hsz : 0 < sz) (hx : ρ x = .slice p n cap) (hs : Sl L sz (.slice p n cap) n cs) (hy : ρ y = .int k q) (hq : q = (m : Int)) (H : Has E w ss) (hL : L ⊆ ss.flatten) (hroom : cap < n + m) (hb : (n + m) * by_ ≤ 140737488355328) (h63 : n + m ≤ 9223372036854775807)
    (hK : ∀ b c cap' w', c.size = cap' * sz → n + m ≤ cap' → cap' ≤ 9223372036854775807 → c.toList.take (n * sz) = cs → Has E w' ([Hp.one b (.cells c e (0, 0))] :: ss) → K (.slice (some ⟨b, 0, none⟩) (n + m) cap') w') :
    OK P ⟨dst, .call ⟨.builtin .append, #[x, y], #[t, u]⟩, T, pos, after, g⟩ ρ w K := by
  subst hq
  obtain ⟨p', cap0, e0, hnc, hcm, hl, hp⟩ := hs
  cases e0
  obtain ⟨i, hi, hiz, rfl, rfl⟩ := hi
  have hlb : m * i.bytes ≤ 140737488355328 := Nat.le_trans (Nat.mul_le_mul_right _ (Nat.le_add_left _ _)) hb
  have hw : IntKind.i64.wrap (m : Int) = m := w64 (by omega) (by omega)
  have n1 : ¬ ((m : Int) < 0) := by omega
  have n2 : ¬ ((281474976710656 : Int) < (m : Int) * (i.bytes : Int)) := by
    have h2 := Int.ofNat_le.2 hlb; rw [Int.natCast_mul] at h2; omega
  have n3 : ¬ (n + m ≤ cap) := by omega
  have n4 : ¬ ((9223372036854775807 : Int) < (n : Int) + (m : Int)) := by omega
  have n5 : ¬ (281474976710656 < Builtin.nextslicecap (n + m) cap * i.bytes) := by
    have := growslice_fits hroom hb; omega
  have hf : ∀ w' : World, (∀ a, w'.cell? a = w.cell? a) → (Builtin.firstCells i.size n (.slice p n cap)).run P w' = .ok cs.toArray w' := by
    intro w' hw'
    by_cases hn : n = 0
    · subst hn
      have : cs = [] := by simpa using hl
      subst this
      cases p <;> simp [Builtin.firstCells, loadCells, loadCellsFrom]
    · obtain ⟨b, off, rfl, hc⟩ := hp (by omega)
      have := run_loadCells_list (P := P) (w := w') ⟨b, off, none⟩ cs (fun j v hv => by rw [add_lit, hw']; exact H.cell hL hc hv)
      rw [hl] at this
      simpa [Builtin.firstCells] using this
  have hf' := hf w.drew (fun a => rfl)
  have hge := grownCap_ge w (n + m) cap e
  have hcm' : grownCap w (n + m) cap e ≤ maxLen := grownCap_le_maxLen w (n + m) cap e (by simpa [maxLen] using h63)
  have hm0 : ¬ (m * i.size = 0) := fun h => by rcases Nat.mul_eq_zero.1 h with h | h <;> omega
  refine o_call_builtin (w' := w.drew.alloc (.cells (cs.toArray ++ Builtin.zeroCells z.cells m ++ Builtin.zeroCells z.cells (grownCap w (n + m) cap e - (n + m))) e)) ?_ (hK w.heap.size _ (grownCap w (n + m) cap e) _ ?_ hge (by simpa [maxLen] using hcm') ?_ (Has.alloc (H.drew _) _))
  · simp [hx, hy, builtin, Builtin.append_, run_underlying ht, run_underlying hu, sizeOf, typeInfo, zeroValue, hi, hiz, asInt, asIntOf, hw, n1, n2, n3, n4, n5, hm0, Question.forced, hf', newRow, grownCap]
  · simp only [Array.size_append, List.size_toArray, size_zeroCells, hz, hl]
    rw [← Nat.add_mul, ← Nat.add_mul]; congr 1; omega
  · simp [← hl]

/-- append into the room that a block of one's own has -/
theorem o_approom {x y : Operand} {t e : TypeId} {z v : Value} {sz by_ b o n cap m : Nat} {c : Array Value} {ds : List Value} {L : List Hp} (ht : P.underlying t = some (.slice e)) (hi : TI P e z sz by_)
    (hx : ρ x = .slice (some ⟨b, o, none⟩) n cap) (hy : ρ y = v) (hs : Sl L sz v m ds) (H : Has E w ([Hp.one b (.cells c e (0, 0))] :: ss)) (hL : L ⊆ ([Hp.one b (.cells c e (0, 0))] :: ss).flatten)
    (hroom : n + m ≤ cap) (hfit : 0 < m → o + (n + m) * sz ≤ c.size) (h1 : ∀ u ∈ ds, u.oneCell' = true)
    (hK : ∀ c' w', c'.size = c.size → c'.toList = (if 0 < m then c.toList.take (o + n * sz) ++ ds ++ c.toList.drop (o + (n + m) * sz) else c.toList) → Has E w' ([Hp.one b (.cells c' e (0, 0))] :: ss) → K (.slice (some ⟨b, o, none⟩) (n + m) cap) w') :
    OK P ⟨dst, .call ⟨.builtin .append, #[x, y], #[t, t]⟩, T, pos, after, g⟩ ρ w K := by
  obtain ⟨p, cap', rfl, hmc, _, hl, hp⟩ := hs
  obtain ⟨i, hi, hiz, rfl, hiby⟩ := hi
  have hwb : w.heap[b]? = some (.cells c e (0, 0)) := H.at (h := Hp.one b (.cells c e (0, 0))) (by simp) (Hp.one_at _ _)
  by_cases hm : 0 < m
  · obtain ⟨b', off, rfl, hc⟩ := hp hm
    have hload := run_loadCells_list (P := P) (w := w) ⟨b', off, none⟩ ds (fun j v hv => by rw [add_lit]; exact H.cell hL hc hv)
    rw [hl] at hload
    have hf := hfit hm
    rw [Nat.add_mul] at hf
    have hst := run_storeCells_at P b (o + n * i.size) e ds 0 c w hwb (by rw [hl]; omega) h1
    simp only [Nat.add_zero, hl] at hst
    refine o_call_builtin (w' := w.setRow b (c.toList.take (o + n * i.size) ++ ds ++ c.toList.drop (o + n * i.size + m * i.size)).toArray) ?_ (hK _ _ (by simp only [List.size_toArray, List.length_append, List.length_take, List.length_drop, Array.length_toList, hl]; omega) (by rw [if_pos hm, Nat.add_mul, Nat.add_assoc]) H.setRow)
    simp [hx, hy, builtin, Builtin.append_, run_underlying ht, Builtin.lenOf, Builtin.firstCells, sizeOf, typeInfo, hi, hroom, hload, add_lit, hst]
  · have h0 : m = 0 := by omega
    subst h0
    refine o_call_builtin (w' := w) ?_ (hK c _ rfl (by rw [if_neg hm]) H)
    have hr : n ≤ cap := hroom
    cases p with
    | none => simp [hx, hy, builtin, Builtin.append_, run_underlying ht, Builtin.lenOf, Builtin.firstCells, sizeOf, typeInfo, hi, hr, storeCells]
    | some a => simp [hx, hy, builtin, Builtin.append_, run_underlying ht, Builtin.lenOf, Builtin.firstCells, sizeOf, typeInfo, hi, hr, storeCells, loadCells, loadCellsFrom]

/-- clear of a part of a block of one's own -/
theorem o_clear {x : Operand} {t e : TypeId} {z : Value} {sz by_ b o n cap : Nat} {c : Array Value} (ht : P.underlying t = some (.slice e)) (hi : TI P e z sz by_) (hzs : z.cells.size = sz)
    (hx : ρ x = .slice (some ⟨b, o, none⟩) n cap) (H : Has E w ([Hp.one b (.cells c e (0, 0))] :: ss)) (hfit : 0 < n → o + n * sz ≤ c.size) (h1 : ∀ u ∈ z.cells, u.oneCell' = true)
    (hK : ∀ c' w' v, c'.toList.length = c.toList.length → c'.toList.take o = c.toList.take o → Has E w' ([Hp.one b (.cells c' e (0, 0))] :: ss) → K v w') :
    OK P ⟨dst, .call ⟨.builtin .clear, #[x], #[t]⟩, T, pos, after, g⟩ ρ w K := by
  obtain ⟨i, hi, hiz, rfl, hiby⟩ := hi
  have hwb : w.heap[b]? = some (.cells c e (0, 0)) := H.at (h := Hp.one b (.cells c e (0, 0))) (by simp) (Hp.one_at _ _)
  cases n with
  | zero =>
    refine o_call_builtin (v := .tuple #[]) (w' := w) ?_ (hK c _ _ rfl rfl H)
    simp [hx, builtin, Builtin.clear_, run_underlying ht]
  | succ n =>
    have hlen : (Builtin.zeroCells z.cells (n + 1)).toList.length = (n + 1) * i.size := by rw [Array.length_toList, size_zeroCells, hzs]
    have hst := run_storeCells_at P b o e (Builtin.zeroCells z.cells (n + 1)).toList 0 c w hwb (by rw [hlen]; exact hfit (by omega)) (by
      intro u hu
      unfold Builtin.zeroCells at hu
      rw [Array.mem_toList_iff, Array.mem_map] at hu
      obtain ⟨j, hj, rfl⟩ := hu
      have hj' := Array.mem_range.1 hj
      have hp : 0 < z.cells.size := by
        rcases Nat.eq_zero_or_pos z.cells.size with h | h
        · rw [h] at hj'; omega
        · exact h
      have hlt : j % z.cells.size < z.cells.size := Nat.mod_lt _ hp
      refine h1 _ ?_
      rw [getElem!_pos z.cells (j % z.cells.size) hlt]
      exact Array.getElem_mem hlt)
    simp only [Nat.add_zero, hlen] at hst
    have hf := hfit (by omega)
    refine o_call_builtin (v := .tuple #[]) (w' := w.setRow b (c.toList.take o ++ (Builtin.zeroCells z.cells (n + 1)).toList ++ c.toList.drop (o + (n + 1) * i.size)).toArray) ?_ (hK _ _ _ ?_ ?_ H.setRow)
    · simp [hx, builtin, Builtin.clear_, run_underlying ht, zeroValue, typeInfo, hi, hiz, hst]
    · simp only [List.length_append, List.length_take, List.length_drop, hlen, Array.length_toList]; omega
    · rw [List.append_assoc, List.take_left']
      rw [List.length_take, Array.length_toList]; omega

/-- slices.overlaps of rows in two blocks -/
theorem o_overlaps {f : FuncId} {fn : Func} {x y : Operand} {ts : Array TypeId} {tS tR e : TypeId} {z : Value} {sz by_ b b' o o' la ca lb cb : Nat} {c c' : Array Value} {U U' : TypeId} (hf : P.funcs[f]? = some fn) (hname : (fn.name == "runtime.NumGoroutine") = false)
    (hb : fn.body.isNone = true) (hn : Extern.findNext fn = none) (he : Extern.find fn = some (Extern.SlicesOverlaps.overlaps #[tS, tS] #[tR])) (ht : P.underlying tS = some (.slice e)) (hi : TI P e z sz by_)
    (hx : ρ x = .slice (some ⟨b, o, none⟩) la ca) (hy : ρ y = .slice (some ⟨b', o', none⟩) lb cb) (H : Has E w ([Hp.one b (.cells c U (0, 0))] :: [Hp.one b' (.cells c' U' (0, 0))] :: ss)) (hc' : c'.size ≠ 0)
    (hρ : ρ (.func f) = .func (.func f) #[] #[]) (hK : K (.bool false) w) : OK P ⟨dst, .call ⟨.value (.func f), #[x, y], ts⟩, T, pos, after, g⟩ ρ w K := by
  have hwb : w.heap[b]? = some (.cells c U (0, 0)) := H.at (h := Hp.one b (.cells c U (0, 0))) (by simp) (Hp.one_at _ _)
  have hwb' : w.heap[b']? = some (.cells c' U' (0, 0)) := H.at (h := Hp.one b' (.cells c' U' (0, 0))) (by simp) (Hp.one_at _ _)
  have hne : b ≠ b' := by
    rintro rfl
    have hd := H.dj
    simp only [List.flatten_cons, List.singleton_append, List.pairwise_cons] at hd
    rcases hd.1 _ (List.mem_cons_self ..) b with h | h <;> rw [Hp.one_at] at h <;> cases h
  have hov := Lib.run_overlaps_apart (P := P) w tS tR e ht sz (fun w => hi.size w) ⟨b, o, none⟩ ⟨b', o', none⟩ la ca lb cb hne U U' c.size c'.size (by simp [World.shape?, hwb]) (by simp [World.shape?, hwb']) hc'
    (by simp [World.frozen?, hwb]) (by simp [World.frozen?, hwb])
  have hr : (execOp ρ ⟨dst, .call ⟨.value (.func f), #[x, y], ts⟩, T, pos, after, g⟩).run P w = .ok (.value (.bool false)) w := by
    have := run_callFunc_extern (P := P) hf hname hb hn he #[.slice (some ⟨b, o, none⟩) la ca, .slice (some ⟨b', o', none⟩) lb cb] w
    rw [hov] at this
    simpa [execOp, resolve, hρ, Deferred.ofValue, invoke, hx, hy] using this
  exact OK.val hr hK
end ops
end Go.Q
