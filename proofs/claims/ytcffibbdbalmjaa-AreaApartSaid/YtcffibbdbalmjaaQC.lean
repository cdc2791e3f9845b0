/-
  Operations upon memory, by heaplets.
-/
import Derived.Test.YtcffibbdbalmjaaQB
import Derived.Great.BuildSlice
import Derived.Laws.OwnMore
import Derived.KernelRfl
set_option linter.unusedVariables false
set_option linter.unusedSimpArgs false
namespace Go.Q

/-- From a place on these cells stand. -/
def CellsAt (L : List Hp) (b off : Nat) (cs : List Value) : Prop := ∃ h ∈ L, ∃ c T f, h b = some (.cells c T f) ∧ ∀ j v, cs[j]? = some v → c[off + j]? = some v

theorem CellsAt.sub {L : List Hp} {b off : Nat} {cs ds : List Value} {k : Nat} (H : CellsAt L b off cs) (hd : ∀ j v, ds[j]? = some v → cs[k + j]? = some v) : CellsAt L b (off + k) ds := by
  obtain ⟨h, hh, c, T, f, hb, hc⟩ := H
  exact ⟨h, hh, c, T, f, hb, fun j v hv => by rw [Nat.add_assoc]; exact hc _ _ (hd j v hv)⟩
theorem CellsAt.mono {L M : List Hp} {b off : Nat} {cs : List Value} (H : CellsAt L b off cs) (hs : L ⊆ M) : CellsAt M b off cs := by
  obtain ⟨h, hh, r⟩ := H; exact ⟨h, hs hh, r⟩
theorem CellsAt.one {b off : Nat} {c : Array Value} {T : TypeId} {f : Nat × Nat} {cs : List Value} (h : (c.toList.drop off).take cs.length = cs) : CellsAt [Hp.one b (.cells c T f)] b off cs :=
  ⟨_, List.mem_singleton.2 rfl, c, T, f, Hp.one_at _ _, fun j v hv => by
    have hj : j < cs.length := (List.getElem?_eq_some_iff.1 hv).1
    rw [← h, List.getElem?_take, if_pos hj, List.getElem?_drop] at hv
    simpa using hv⟩
theorem Has.cell {E w : World} {ss : List (List Hp)} (H : Has E w ss) {L : List Hp} (hL : L ⊆ ss.flatten) {b off j : Nat} {cs : List Value} {v : Value} (hc : CellsAt L b off cs) (hj : cs[j]? = some v) :
    w.cell? ⟨b, off + j, none⟩ = some v := by
  obtain ⟨h, hh, c, T, f, hb, hcc⟩ := hc
  rw [cell_of_row w b (off + j) c T f (H.at (hL hh) hb)]
  exact hcc j v hj

theorem add_lit (b off j : Nat) : (⟨b, off, none⟩ : Addr).add j = ⟨b, off + j, none⟩ := by unfold Addr.add; split <;> simp_all

/-- A type's zero value, cells and bytes. -/
def TI (P : Program) (t : TypeId) (z : Value) (sz by_ : Nat) : Prop := ∃ i, P.info? t = some i ∧ i.zero = some z ∧ i.size = sz ∧ i.bytes = by_
theorem TI.mk {P : Program} {t : TypeId} {z : Value} {sz by_ : Nat} (h : (P.info? t).map (fun i => (i.zero, i.size, i.bytes)) = some (some z, sz, by_)) : TI P t z sz by_ := by
  unfold TI
  cases hi : P.info? t with
  | none => simp [hi] at h
  | some i => simp [hi] at h; exact ⟨i, rfl, h⟩
theorem TI.size {P : Program} {t : TypeId} {z : Value} {sz by_ : Nat} (h : TI P t z sz by_) (w : World) : (sizeOf t).run P w = .ok sz w := by
  obtain ⟨i, hi, _, rfl, _⟩ := h
  simp [sizeOf, typeInfo, hi]

def aggB : TypeDesc → Bool
  | .struct _ | .array _ _ => true
  | _ => false
theorem run_isAgg {P : Program} {t : TypeId} {d : TypeDesc} (h : P.underlying t = some d) (w : World) : (isAgg t).run P w = .ok (aggB d) w := by
  unfold isAgg
  rw [Sem.run_bind, run_underlying h]
  cases d <;> rfl

section ops
variable {P : Program} {ρ : Operand → Value} {E w : World} {ss : List (List Hp)} {K : Value → World → Prop} {dst : Option Tmp} {T : TypeId} {pos : String} {after : Array Edge} {g : Option (Nat × Bool)}

theorem o_load1 {t : TypeId} {x : Operand} {d : TypeDesc} {L : List Hp} {b off : Nat} {v : Value} (ht : P.underlying t = some d) (hd : aggB d = false)
    (hx : ρ x = .pointer (some ⟨b, off, none⟩)) (H : Has E w ss) (hL : L ⊆ ss.flatten) (hc : CellsAt L b off [v]) (hK : K v w) :
    OK P ⟨dst, .load t x, T, pos, after, g⟩ ρ w K := by
  refine OK.val (run_v ?_) hK
  have e := H.cell (j := 0) (v := v) hL hc rfl
  simp only [hx, Instr.loadAt, Instr.sureAddr, Sem.run_bind, Sem.run_pure, Result.andThen_ok, loadVar, run_isAgg ht, hd]
  simp only [Bool.false_eq_true, if_false, run_load]
  rw [show (⟨b, off, none⟩ : Addr) = ⟨b, off + 0, none⟩ from rfl, e]

theorem o_loadN {t : TypeId} {x : Operand} {d : TypeDesc} {L : List Hp} {b off : Nat} {cs : List Value} {z : Value} {by_ : Nat} (ht : P.underlying t = some d) (hd : aggB d = true)
    (hi : TI P t z cs.length by_) (hx : ρ x = .pointer (some ⟨b, off, none⟩)) (H : Has E w ss) (hL : L ⊆ ss.flatten) (hc : CellsAt L b off cs) (hK : K (.agg cs.toArray) w) :
    OK P ⟨dst, .load t x, T, pos, after, g⟩ ρ w K := by
  refine OK.val (run_v ?_) hK
  simp only [hx, Instr.loadAt, Instr.sureAddr, Sem.run_bind, Sem.run_pure, Result.andThen_ok, loadVar, run_isAgg ht, hd, if_true, hi.size]
  rw [run_loadCells_list (P := P) (w := w) ⟨b, off, none⟩ cs (fun j v hv => by rw [add_lit]; exact H.cell hL hc hv)]
  rfl

/-- the address of a field -/
theorem o_fieldAddr {s : TypeId} {x : Operand} {f b off k : Nat} (hr : ∀ w, (Instr.fieldAt s (.pointer (some ⟨b, off, none⟩)) f).run P w = .ok (.pointer (some ⟨b, k, none⟩)) w)
    (hx : ρ x = .pointer (some ⟨b, off, none⟩)) (hK : K (.pointer (some ⟨b, k, none⟩)) w) : OK P ⟨dst, .fieldAddr s x f, T, pos, after, g⟩ ρ w K :=
  OK.val (run_v (by rw [hx]; exact hr w)) hK

/-- any quiet operation that is reckoned by sight -/
theorem o_sight {op : Op} {v : Value} (hr : ∀ w, (execOp ρ ⟨dst, op, T, pos, after, g⟩).run P w = .ok (.value v) w) (hK : K v w) : OK P ⟨dst, op, T, pos, after, g⟩ ρ w K :=
  OK.val (hr w) hK

/-- a new block of a value -/
theorem o_box {e : TypeId} {x : Operand} {v : Value} {cs : Array Value} (hx : ρ x = v) (hcs : v.cells = cs) (H : Has E w ss)
    (hK : ∀ b w', Has E w' ([Hp.one b (.cells cs e (0, 0))] :: ss) → K (.pointer (some ⟨b, 0, none⟩)) w') : OK P ⟨dst, .box e x, T, pos, after, g⟩ ρ w K := by
  subst hcs hx
  exact OK.val (w' := { w with heap := w.heap.push (.cells (ρ x).cells e) }) (run_v (by simp [Instr.box, newVar, newRow])) (hK _ _ (H.alloc _))
theorem o_alloc {e : TypeId} {z : Value} {sz by_ : Nat} {cs : Array Value} (hi : TI P e z sz by_) (hcs : z.cells = cs) (H : Has E w ss)
    (hK : ∀ b w', Has E w' ([Hp.one b (.cells cs e (0, 0))] :: ss) → K (.pointer (some ⟨b, 0, none⟩)) w') : OK P ⟨dst, .alloc e, T, pos, after, g⟩ ρ w K := by
  subst hcs
  obtain ⟨i, hi, hz, _⟩ := hi
  exact OK.val (w' := { w with heap := w.heap.push (.cells z.cells e) }) (run_v (by simp [Instr.alloc, zeroValue, typeInfo, hi, hz, newVar, newRow])) (hK _ _ (H.alloc _))
theorem o_makeMap {t : TypeId} (H : Has E w ss) (hK : ∀ b w', Has E w' ([Hp.one b (.map #[] 0)] :: ss) → K (.map (some b)) w') : OK P ⟨dst, .makeMap t none, T, pos, after, g⟩ ρ w K :=
  OK.val (w' := { w with heap := w.heap.push (.map #[] 0) }) (run_v (by simp [Instr.makeMap])) (hK _ _ (H.alloc _))
theorem o_buildSlice {t e : TypeId} {len : Nat} {parts : Array (Nat × Operand)} {ps : Array (Nat × Value)} {cells : Array Value} {z : Value} {sz by_ : Nat}
    (ht : P.underlying t = some (.slice e)) (hi : TI P e z sz by_) (hsmall : ¬ len * sz > 2 ^ 24) (hp : parts.map (fun (i, x) => (i, ρ x)) = ps)
    (hf : Instr.fill (fun i => some (i * sz, sz)) ((Array.range (len * sz)).map (z.cells[· % z.cells.size]!)) ps.toList = some cells) (H : Has E w ss)
    (hK : ∀ b w', Has E w' ([Hp.one b (.cells cells e (0, 0))] :: ss) → K (.slice (some ⟨b, 0, none⟩) len len) w') : OK P ⟨dst, .buildSlice t len parts, T, pos, after, g⟩ ρ w K := by
  obtain ⟨i, hi, hz, hsz, _⟩ := hi
  subst hsz
  refine OK.val (w' := { w with heap := w.heap.push (.cells cells e) }) (run_v ?_) (hK _ _ (H.alloc _))
  rw [show (parts.map fun (i, x) => (i, ρ x)) = ps from hp]
  by_cases h0 : len * i.size = 0
  · rw [h0] at hf
    simp only [Instr.buildSlice, Sem.run_bind, run_underlying ht, sizeOf, typeInfo, run_program, hi, Result.andThen_ok, Sem.run_pure, h0]
    simp [newRow, Array.range_zero'] at *
    simp [hf]
  · exact run_buildSlice w t e len ps cells i z ht hi hz hsmall h0 hf

/-- a call of a function of the program, or of a function value -/
theorem o_call {c : Operand} {f : FuncId} {first captured : Array Value} {args : Array Operand} {ts : Array TypeId} {vs : Array Value} {fn : Func} {R : Ending → World → Prop} (hf : P.funcs[f]? = some fn)
    (hb : fn.body.isNone = false) (hn : (fn.name == "runtime.NumGoroutine") = false) (hv : ρ c = .func (.func f) first captured) (hargs : first ++ args.map ρ ++ captured = vs) (hc : Calls P f vs w R)
    (hK : ∀ e w', R e w' → ∃ v, e = .returned v ∧ K v w') : OK P ⟨dst, .call ⟨.value c, args, ts⟩, T, pos, after, g⟩ ρ w K := by
  have hr : (execOp ρ ⟨dst, .call ⟨.value c, args, ts⟩, T, pos, after, g⟩).run P w = .ok (.enter f vs) w := by
    have hn' : fn.name ≠ "runtime.NumGoroutine" := by simpa using hn
    have hb' : fn.body ≠ none := by intro e; simp [e] at hb
    simp [execOp, resolve, hv, Deferred.ofValue, invoke, callFunc, hf, hn', hb', ← hargs]
  unfold OK
  rw [hr]
  exact hc.mono hK

/-- A row of n elements of sz cells each. -/
def Sl (L : List Hp) (sz : Nat) (v : Value) (n : Nat) (cs : List Value) : Prop :=
  ∃ p cap, v = .slice p n cap ∧ n ≤ cap ∧ cap ≤ 9223372036854775807 ∧ cs.length = n * sz ∧ (0 < n → ∃ b off, p = some ⟨b, off, none⟩ ∧ CellsAt L b off cs)

theorem Sl.mono {L M : List Hp} {sz : Nat} {v : Value} {n : Nat} {cs : List Value} (H : Sl L sz v n cs) (hs : L ⊆ M) : Sl M sz v n cs := by
  obtain ⟨p, cap, e, a, b, c, d⟩ := H
  exact ⟨p, cap, e, a, b, c, fun h => let ⟨b, off, e, hc⟩ := d h; ⟨b, off, e, hc.mono hs⟩⟩
theorem Sl.form {L : List Hp} {sz : Nat} {v : Value} {n : Nat} {cs : List Value} (H : Sl L sz v n cs) : ∃ p cap, v = .slice p n cap := let ⟨p, cap, e, _⟩ := H; ⟨p, cap, e⟩

theorem o_lenS {x : Operand} {t e : TypeId} {L : List Hp} {sz n : Nat} {v : Value} {cs : List Value} (ht : P.underlying t = some (.slice e)) (hx : ρ x = v) (hs : Sl L sz v n cs) (hK : K (.int .i64 n) w) :
    OK P ⟨dst, .call ⟨.builtin .len, #[x], #[t]⟩, T, pos, after, g⟩ ρ w K := by
  obtain ⟨p, cap, rfl, _⟩ := hs
  exact o_len ht hx hK

theorem o_indexAddr {x y : Operand} {t e : TypeId} {L : List Hp} {sz n by_ : Nat} {v z : Value} {cs : List Value} {k : IntKind} {i : Int} (ht : P.underlying t = some (.slice e)) (hi : TI P e z sz by_)
    (hx : ρ x = v) (hs : Sl L sz v n cs) (hy : ρ y = .int k i) (h0 : 0 ≤ i) (h1 : i < n) (hK : ∀ b off, CellsAt L b off ((cs.drop (i.toNat * sz)).take sz) → K (.pointer (some ⟨b, off, none⟩)) w) :
    OK P ⟨dst, .indexAddr t x y, T, pos, after, g⟩ ρ w K := by
  obtain ⟨p, cap, rfl, hnc, hcm, hl, hp⟩ := hs
  obtain ⟨b, off, rfl, hc⟩ := hp (by omega)
  refine OK.val (run_v (v := .pointer (some ⟨b, off + i.toNat * sz, none⟩)) ?_) (hK _ _ (hc.sub ?_))
  · rw [hx, hy]
    simp [Instr.indexAt, asIntOf, run_underlying ht, h0, h1, hi.size, add_lit]
  · intro j v hv
    rw [List.getElem?_take] at hv
    split at hv
    · rw [List.getElem?_drop] at hv; exact hv
    · cases hv

theorem drop_take_map {α : Type} (f : α → Value) (l : List α) (i : Nat) (hi : i < l.length) : ((l.map f).drop (i * 1)).take 1 = [f l[i]] := by
  rw [Nat.mul_one, ← List.map_drop, List.drop_eq_getElem_cons hi]; rfl

/-- a store of one cell into the front block -/
theorem o_store1 {x y : Operand} {t : TypeId} {b off : Nat} {c c' : Array Value} {U : TypeId} {v z : Value} {by_ : Nat} (hi : TI P t z 1 by_) (hx : ρ x = .pointer (some ⟨b, off, none⟩)) (hy : ρ y = v)
    (hv : v.oneCell' = true) (hlt : off < c.size) (hc : c.setIfInBounds off v = c') (H : Has E w ([Hp.one b (.cells c U (0, 0))] :: ss))
    (hK : ∀ w', Has E w' ([Hp.one b (.cells c' U (0, 0))] :: ss) → K undef w') : OK P ⟨dst, .store t x y, T, pos, after, g⟩ ρ w K := by
  have hwb : w.heap[b]? = some (.cells c U (0, 0)) := H.at (h := Hp.one b (.cells c U (0, 0))) (by simp) (Hp.one_at _ _)
  have hcell : w.cell? ⟨b, off, none⟩ = some c[off] := by rw [cell_of_row w b off c U (0, 0) hwb]; simp [hlt]
  have hfz : w.frozen? ⟨b, off, none⟩ = false := by simp [World.frozen?, hwb]
  have hcl : v.cells = #[v] := by cases v <;> first | rfl | (simp [Value.oneCell'] at hv)
  refine OK.skip (w' := w.setCell ⟨b, off, none⟩ v) (run_u ?_) (hK _ ?_)
  · rw [hx, hy]
    simp only [Instr.storeAt, Instr.sureAddr, Sem.run_bind, Sem.run_pure, Result.andThen_ok, storeVar, hi.size, hcl]
    simp [storeCells, add_lit, run_store P w ⟨b, off, none⟩ v .plain hv, hcell, hfz]
  · refine Has0.write (as := [Hp.one b (.cells c U (0, 0))]) (as' := [Hp.one b (.cells c' U (0, 0))]) (hs := ss.flatten) H rfl rfl rfl (by simp) ?_ ?_ ?_
    · intro k hk
      have hk := hk _ (List.mem_singleton.2 rfl)
      refine .inl fun h hh => ?_
      rw [List.mem_singleton.1 hh]
      unfold Hp.one at hk ⊢
      split at hk
      · cases hk
      · rw [if_neg (by assumption)]
    · intro h hh k o hk
      rw [List.mem_singleton.1 hh] at hk
      obtain ⟨rfl, rfl⟩ := Hp.one_some hk
      simp only [World.setCell, Array.getElem?_modify]
      simp [hwb, hc]
    · intro k _ hk
      have hk := hk _ (List.mem_singleton.2 rfl)
      have : k ≠ b := by rintro rfl; rw [Hp.one_at] at hk; cases hk
      simp only [World.setCell, Array.getElem?_modify]
      rw [if_neg (by omega)]
end ops
end Go.Q
