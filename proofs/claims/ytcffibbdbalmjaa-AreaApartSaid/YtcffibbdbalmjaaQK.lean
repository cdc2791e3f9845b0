/-
  Maps whose keys are integers, in a block of one's own.
-/
import Derived.Test.YtcffibbdbalmjaaQI
import Derived.MapKept
set_option linter.unusedVariables false
set_option linter.unusedSimpArgs false
namespace Go.Q
open Go.MapKept
def lookN : List (Int × Value) → Int → Nat → Option (Nat × Value)
  | [], _, _ => none
  | (a, v) :: t, k, i => if k = a then some (i, v) else lookN t k (i + 1)
def ents (l : List (Int × Value)) : List (Value × Value) := l.map fun p => (.int .i64 p.1, p.2)
theorem findNow_int (k : Int) : ∀ (es : List MapEntry) (l : List (Int × Value)) (i : Nat), es.map (fun e => (e.key, e.val)) = ents l → Instr.findNow (.int .i64) (.int .i64 k) es i = some (lookN l k i)
  | [], [], i, _ => rfl
  | [], _ :: _, i, h => by simp [ents] at h
  | _ :: _, [], i, h => by simp [ents] at h
  | e :: es, (a, v) :: l, i, h => by
    simp only [ents, List.map_cons, List.cons.injEq, Prod.mk.injEq] at h
    obtain ⟨⟨h1, h2⟩, h3⟩ := h
    unfold Instr.findNow
    rw [h1]
    simp only [Instr.sameNow, if_true]
    by_cases g : k = a
    · subst g; simp [lookN, h2]
    · have : (k == a) = false := by simpa using g
      rw [this]
      simp only
      rw [findNow_int k es l (i + 1) h3]
      simp [lookN, g]
def getM (l : List (Int × Value)) (k : Int) : Option Value := (lookN l k 0).map (·.2)
theorem lookN_shift (l : List (Int × Value)) (k : Int) : ∀ i, lookN l k i = (lookN l k 0).map fun p => (p.1 + i, p.2) := by
  induction l with
  | nil => intro i; rfl
  | cons p t ih =>
    intro i
    obtain ⟨a, v⟩ := p
    simp only [lookN]
    split
    · simp
    · rw [ih (i + 1), ih 1]
      cases lookN t k 0 <;> simp; omega
theorem getM_cons (a : Int) (v : Value) (t : List (Int × Value)) (k : Int) : getM ((a, v) :: t) k = if k = a then some v else getM t k := by
  simp only [getM, lookN]
  split
  · rfl
  · rw [lookN_shift]; cases lookN t k 0 <;> rfl
def putM : List (Int × Value) → Int → Value → List (Int × Value)
  | [], k, v => [(k, v)]
  | (a, u) :: t, k, v => if k = a then (k, v) :: t else (a, u) :: putM t k v
theorem getM_put (k : Int) (v : Value) (k' : Int) : ∀ l, getM (putM l k v) k' = if k' = k then some v else getM l k'
  | [] => by rw [putM, getM_cons]
  | (a, u) :: t => by
    rw [putM]
    split
    · rename_i h; subst h; rw [getM_cons, getM_cons]; split <;> rfl
    · rename_i h
      rw [getM_cons, getM_cons, getM_put k v k' t]
      split
      · rename_i g; rw [if_neg (fun e => h (e.symm.trans g))]
      · rfl
theorem put_found (k : Int) (v : Value) : ∀ (l : List (Int × Value)) (i : Nat) (u : Value) (j : Nat), lookN l k j = some (i + j, u) → putM l k v = l.set i (k, v)
  | [], i, u, j, h => by cases h
  | (a, x) :: t, i, u, j, h => by
    rw [lookN] at h
    rw [putM]
    split at h
    · rename_i g
      obtain rfl : i = 0 := by simp at h; omega
      rw [if_pos g]; rfl
    · rename_i g
      rw [if_neg g]
      cases i with
      | zero =>
        exfalso
        rw [lookN_shift] at h
        cases hl : lookN t k 0 with
        | none => rw [hl] at h; cases h
        | some p => rw [hl] at h; simp at h; omega
      | succ i => rw [put_found k v t i u (j + 1) (by rw [h]; congr 2; omega)]; rfl
theorem put_none' (k : Int) (v : Value) : ∀ (l : List (Int × Value)) (j : Nat), lookN l k j = none → putM l k v = l ++ [(k, v)]
  | [], _, _ => rfl
  | (a, x) :: t, j, h => by
    rw [lookN] at h
    split at h
    · cases h
    · rename_i g; rw [putM, if_neg g, put_none' k v t (j + 1) h]; rfl
theorem lookN_get (k : Int) : ∀ (l : List (Int × Value)) (i : Nat) (u : Value) (j : Nat), lookN l k j = some (i + j, u) → l[i]? = some (k, u)
  | [], i, u, j, h => by cases h
  | (a, x) :: t, i, u, j, h => by
    rw [lookN] at h
    split at h
    · rename_i g
      obtain rfl : i = 0 := by simp at h; omega
      simp at h; simp [g, h]
    · rename_i g
      cases i with
      | zero =>
        exfalso
        rw [lookN_shift] at h
        cases hl : lookN t k 0 with
        | none => rw [hl] at h; cases h
        | some p => rw [hl] at h; simp at h; omega
      | succ i => simpa using lookN_get k t i u (j + 1) (by rw [h]; congr 2; omega)
theorem modify_map {β γ : Type} (f : β → β) (g : β → γ) (z : γ) (hz : ∀ e, g (f e) = z) : ∀ (l : List β) (i : Nat), (l.modify i f).map g = (l.map g).set i z
  | [], i => by simp
  | e :: t, 0 => by simp [hz]
  | e :: t, i + 1 => by simp [modify_map f g z hz t i]
theorem Has.setMap {E w : World} {ss : List (List Hp)} {b : Nat} {o o' : Obj} (H : Has E w ([Hp.one b o] :: ss)) : Has E { w with heap := w.heap.setIfInBounds b o' } ([Hp.one b o'] :: ss) := by
  have hwb : w.heap[b]? = some o := H.at (h := Hp.one b o) (by simp) (Hp.one_at _ _)
  have hlt : b < w.heap.size := (Array.getElem?_eq_some_iff.1 hwb).1
  refine Has0.write (as := [Hp.one b o]) (as' := [Hp.one b o']) (hs := ss.flatten) H rfl rfl rfl (by simp) ?_ ?_ ?_
  · intro k hk
    have hk := hk _ (List.mem_singleton.2 rfl)
    refine .inl fun h hh => ?_
    rw [List.mem_singleton.1 hh]
    unfold Hp.one at hk ⊢
    split at hk
    · cases hk
    · rw [if_neg (by assumption)]
  · intro h hh k o hk
    rw [List.mem_singleton.1 hh] at hk
    obtain ⟨rfl, rfl⟩ := Hp.one_some hk
    simp [hlt]
  · intro k _ hk
    have hk := hk _ (List.mem_singleton.2 rfl)
    have : k ≠ b := by rintro rfl; rw [Hp.one_at] at hk; cases hk
    simp [Array.getElem?_setIfInBounds, Ne.symm this]
section ops
variable {P : Program} {ρ : Operand → Value} {E w : World} {ss : List (List Hp)} {K : Value → World → Prop} {dst : Option Tmp} {T : TypeId} {pos : String} {after : Array Edge} {g : Option (Nat × Bool)}
theorem o_lookup {x y : Operand} {t kt et : TypeId} {b : Nat} {es : Array MapEntry} {c : Nat} {l : List (Int × Value)} {z : Value} {sz by_ : Nat} {k : Int} (ht : P.underlying t = some (.map kt et)) (hk : P.underlying kt = some (.int .i64)) (hz : TI P et z sz by_)
    (hx : ρ x = .map (some b)) (hy : ρ y = .int .i64 k) (H : Has E w ss) {L : List Hp} (hL : L ⊆ ss.flatten) (hb : ∃ h ∈ L, h b = some (.map es c)) (he : es.toList.map (fun e => (e.key, e.val)) = ents l) (hK : K ((getM l k).getD z) w) :
    OK P ⟨dst, .lookup t x y false, T, pos, after, g⟩ ρ w K := by
  obtain ⟨h, hh, hb⟩ := hb
  have hwb := H.at (hL hh) hb
  refine OK.val (run_v ?_) hK
  rw [hx, hy]
  have hf := run_findKey (P := P) (w := w) hk (findNow_int k es.toList l 0 he)
  obtain ⟨i, hi, hiz, _, _⟩ := hz
  have hc : (Instr.checkKey es.isEmpty 10000 kt (.int .i64 k)).run P w = .ok () w := run_checkKey hk (by simp [IsKey]) es.isEmpty 9999
  have hg : (getObj b).run P w = .ok (.map es c) w := by simp [getObj, Sem.run, hwb]
  cases hl : lookN l k 0 with
  | none => rw [hl] at hf; simp [Instr.lookup, run_underlying ht, hg, hf, hc, getM, hl, zeroValue, typeInfo, hi, hiz, Result.andThen]
  | some p => rw [hl] at hf; simp [Instr.lookup, run_underlying ht, hg, hf, hc, getM, hl, Result.andThen]
theorem run_stays {w : World} (a b : Int) (h : a = b) : (Instr.keyThatStays (.int .i64 a) (.int .i64 b)).run P w = .ok (.int .i64 b) w := by
  subst h; simp [Instr.keyThatStays, Instr.sameBits]
theorem o_mapUpdate {x y u : Operand} {t kt et : TypeId} {b : Nat} {es : Array MapEntry} {c : Nat} {l : List (Int × Value)} {v : Value} {k : Int} (ht : P.underlying t = some (.map kt et)) (hk : P.underlying kt = some (.int .i64))
    (hx : ρ x = .map (some b)) (hy : ρ y = .int .i64 k) (hu : ρ u = v) (H : Has E w ([Hp.one b (.map es c)] :: ss)) (he : es.toList.map (fun e => (e.key, e.val)) = ents l)
    (hK : ∀ es' c' w', es'.toList.map (fun e : MapEntry => (e.key, e.val)) = ents (putM l k v) → Has E w' ([Hp.one b (.map es' c')] :: ss) → K undef w') :
    OK P ⟨dst, .mapUpdate t x y u, T, pos, after, g⟩ ρ w K := by
  have hwb : w.heap[b]? = some (.map es c) := H.at (h := Hp.one b (.map es c)) (by simp) (Hp.one_at _ _)
  have hf := run_findKey (P := P) (w := w) hk (findNow_int k es.toList l 0 he)
  have hc : (Instr.checkKey false 10000 kt (.int .i64 k)).run P w = .ok () w := run_checkKey hk (by simp [IsKey]) false 9999
  have hg : (getObj b).run P w = .ok (.map es c) w := by simp [getObj, Sem.run, hwb]
  have hs : ∀ o, (setObj b o).run P w = .ok () { w with heap := w.heap.setIfInBounds b o } := fun o => run_setObj_map o hwb
  cases hl : lookN l k 0 with
  | none =>
    rw [hl] at hf
    refine OK.skip (w' := { w with heap := w.heap.setIfInBounds b (.map (es.push ⟨.int .i64 k, v, c⟩) (c + 1)) }) (run_u ?_) (hK _ _ _ ?_ H.setMap)
    · rw [hx, hy, hu]; simp [Instr.mapUpdate, run_underlying ht, hg, hf, hc, hs, Result.andThen]
    · rw [put_none' k v l 0 hl]; simp [he, ents]
  | some p =>
    obtain ⟨i, v0⟩ := p
    rw [hl] at hf
    have hi := lookN_get k l i v0 0 hl
    have hes : ∃ e, es[i]? = some e ∧ e.key = .int .i64 k := by
      have h1 : (es.toList.map (fun e : MapEntry => (e.key, e.val)))[i]? = some (.int .i64 k, v0) := by rw [he, ents, List.getElem?_map, hi]; rfl
      rw [List.getElem?_map, Option.map_eq_some_iff] at h1
      obtain ⟨e, h2, h3⟩ := h1
      exact ⟨e, by simpa using h2, congrArg Prod.fst h3⟩
    obtain ⟨e, h2, h3⟩ := hes
    refine OK.skip (w' := { w with heap := w.heap.setIfInBounds b (.map (es.modify i fun e => { e with key := .int .i64 k, val := v }) c) }) (run_u ?_) (hK _ _ _ ?_ H.setMap)
    · rw [hx, hy, hu]; simp [Instr.mapUpdate, run_underlying ht, hg, hf, hc, hs, Result.andThen, h2, h3, run_stays]
    · rw [put_found k v l i v0 0 hl, Array.toList_modify, modify_map (fun e : MapEntry => { e with key := .int .i64 k, val := v }) (fun e : MapEntry => (e.key, e.val)) (Value.int .i64 k, v) (fun _ => rfl), he, ents, ents, List.map_set]
end ops
end Go.Q
