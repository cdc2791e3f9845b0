/-
  Parts of a walk: what functions of the program compute, each told by a theorem (QKV, QWay, QDev, QLock, QLockM, QF2, QF3, QF4, QF5, QF6, QELk1, QDir, QELk2, QELk3).
-/
import Derived.Test.YtcffibbdbalmjaaB1
import Derived.MapKept
import Derived.Sort.Walk0
set_option linter.unusedVariables false
set_option linter.unusedSimpArgs false
namespace Go.Q
open Go.MapKept
section
variable {κ β : Type} [DecidableEq κ]
def lookB : List (κ × β) → κ → Nat → Option (Nat × β)
  | [], _, _ => none
  | (a, v) :: t, k, i => if k = a then some (i, v) else lookB t k (i + 1)
def getB : List (κ × β) → κ → Option β
  | [], _ => none
  | (a, v) :: t, k => if k = a then some v else getB t k
def putB : List (κ × β) → κ → β → List (κ × β)
  | [], k, v => [(k, v)]
  | (a, u) :: t, k, v => if k = a then (k, v) :: t else (a, u) :: putB t k v
def delB : List (κ × β) → κ → List (κ × β)
  | [], _ => []
  | (a, u) :: t, k => if k = a then t else (a, u) :: delB t k
theorem lookB_shift (k : κ) : ∀ (l : List (κ × β)) (i : Nat), lookB l k i = (lookB l k 0).map fun p => (p.1 + i, p.2)
  | [], _ => rfl
  | (a, v) :: t, i => by
    simp only [lookB]
    split
    · simp
    · rw [lookB_shift k t (i + 1), lookB_shift k t 1]
      cases lookB t k 0 <;> simp; omega
theorem lookB_val (k : κ) : ∀ (l : List (κ × β)) (i : Nat), (lookB l k i).map (·.2) = getB l k
  | [], _ => rfl
  | (a, v) :: t, i => by
    simp only [lookB, getB]
    split
    · rfl
    · exact lookB_val k t (i + 1)
theorem lookB_cons {a k : κ} {u v : β} {t : List (κ × β)} {i : Nat} (hne : k ≠ a) (h : lookB ((a, u) :: t) k 0 = some (i, v)) : ∃ j, i = j + 1 ∧ lookB t k 0 = some (j, v) := by
  rw [lookB, if_neg hne, lookB_shift] at h
  cases hl : lookB t k 0 with
  | none => rw [hl] at h; cases h
  | some p =>
    rw [hl] at h
    obtain ⟨j, x⟩ := p
    simp only [Option.map_some, Option.some.injEq, Prod.mk.injEq] at h
    exact ⟨j, by omega, by rw [h.2]⟩
theorem lookB_get (k : κ) : ∀ (l : List (κ × β)) (i : Nat) (v : β), lookB l k 0 = some (i, v) → l[i]? = some (k, v)
  | [], _, _, h => by cases h
  | (a, u) :: t, i, v, h => by
    by_cases g : k = a
    · rw [lookB, if_pos g] at h
      simp only [Option.some.injEq, Prod.mk.injEq] at h
      obtain ⟨rfl, rfl⟩ := h; subst g; rfl
    · obtain ⟨j, rfl, h'⟩ := lookB_cons g h
      simpa using lookB_get k t j v h'
theorem putB_at (k : κ) (v : β) : ∀ (l : List (κ × β)) (i : Nat) (u : β), lookB l k 0 = some (i, u) → putB l k v = l.set i (k, v)
  | [], _, _, h => by cases h
  | (a, x) :: t, i, u, h => by
    rw [putB]
    by_cases g : k = a
    · rw [lookB, if_pos g] at h
      simp only [Option.some.injEq, Prod.mk.injEq] at h
      obtain ⟨rfl, rfl⟩ := h; rw [if_pos g]; rfl
    · obtain ⟨j, rfl, h'⟩ := lookB_cons g h
      rw [if_neg g, putB_at k v t j u h']; rfl
theorem putB_new (k : κ) (v : β) : ∀ (l : List (κ × β)) (i : Nat), lookB l k i = none → putB l k v = l ++ [(k, v)]
  | [], _, _ => rfl
  | (a, x) :: t, i, h => by
    rw [lookB] at h
    split at h
    · cases h
    · rename_i g; rw [putB, if_neg g, putB_new k v t (i + 1) h]; rfl
theorem delB_at (k : κ) : ∀ (l : List (κ × β)) (i : Nat) (u : β), lookB l k 0 = some (i, u) → delB l k = l.eraseIdx i
  | [], _, _, h => by cases h
  | (a, x) :: t, i, u, h => by
    rw [delB]
    by_cases g : k = a
    · rw [lookB, if_pos g] at h
      simp only [Option.some.injEq, Prod.mk.injEq] at h
      obtain ⟨rfl, rfl⟩ := h; rw [if_pos g]; rfl
    · obtain ⟨j, rfl, h'⟩ := lookB_cons g h
      rw [if_neg g, delB_at k t j u h']; rfl
theorem delB_none (k : κ) : ∀ (l : List (κ × β)) (i : Nat), lookB l k i = none → delB l k = l
  | [], _, _ => rfl
  | (a, x) :: t, i, h => by
    rw [lookB] at h
    split at h
    · cases h
    · rename_i g; rw [delB, if_neg g, delB_none k t (i + 1) h]
theorem getB_put (k : κ) (v : β) (k' : κ) : ∀ l : List (κ × β), getB (putB l k v) k' = if k' = k then some v else getB l k'
  | [] => by simp [putB, getB]
  | (a, u) :: t => by
    rw [putB]
    split
    · rename_i h; subst h; simp only [getB]; split <;> rfl
    · rename_i h
      simp only [getB]; rw [getB_put k v k' t]
      split
      · rename_i g; rw [if_neg (fun e => h (e.symm.trans g))]
      · rfl
theorem getB_mem {k : κ} : ∀ {l : List (κ × β)}, (getB l k).isSome = true ↔ k ∈ l.map (·.1)
  | [] => by simp [getB]
  | (a, u) :: t => by
    rw [getB, List.map_cons, List.mem_cons]
    split
    · simp [*]
    · rw [getB_mem]; simp [*]
theorem getB_none {k : κ} {l : List (κ × β)} (h : k ∉ l.map (·.1)) : getB l k = none := by
  cases e : getB l k with
  | none => rfl
  | some v => exact absurd (getB_mem.1 (by rw [e]; rfl)) h
theorem getB_del (k k' : κ) : ∀ l : List (κ × β), (l.map (·.1)).Nodup → getB (delB l k) k' = if k' = k then none else getB l k'
  | [], _ => by simp [delB, getB]
  | (a, u) :: t, hn => by
    have h2 := List.nodup_cons.1 hn
    rw [delB]
    split
    · rename_i h
      subst h
      simp only [getB]
      split
      · rename_i g; subst g; exact getB_none h2.1
      · rfl
    · rename_i h
      simp only [getB]; rw [getB_del k k' t h2.2]
      split
      · rename_i g; rw [if_neg (fun e => h (e.symm.trans g))]
      · rfl
theorem putB_keys (k : κ) (v : β) : ∀ l : List (κ × β), (putB l k v).map (·.1) = if k ∈ l.map (·.1) then l.map (·.1) else l.map (·.1) ++ [k]
  | [] => by simp [putB]
  | (a, u) :: t => by
    rw [putB]
    split
    · rename_i h; subst h; simp
    · rename_i h
      rw [List.map_cons, putB_keys k v t]
      simp only [List.map_cons, List.mem_cons, h, false_or]
      split <;> simp
theorem delB_sub (k : κ) : ∀ l : List (κ × β), (delB l k).Sublist l
  | [] => .slnil
  | (a, u) :: t => by
    rw [delB]
    split
    · exact List.sublist_cons_self _ _
    · exact (delB_sub k t).cons_cons _
end
/-- Keys of this type are told apart at once. -/
structure KeyAt {κ : Type} [DecidableEq κ] (P : Program) (kt : TypeId) (g : κ → Value) : Prop where
  inj : ∀ a b, g a = g b → a = b
  now : ∃ d, P.underlying kt = some d ∧ (∀ a, IsKey d (g a)) ∧ ∀ a b, Instr.sameNow d (g a) (g b) = some (decide (a = b))
  bits : ∀ a, Instr.sameBits 10000 (g a) (g a) = true
section
variable {κ β : Type}
/-- The entries of a map. -/
def MapV (g : κ → Value) (f : β → Value) (es : Array MapEntry) (c : Nat) (l : List (κ × β)) : Prop := es.toList.map (fun e : MapEntry => (e.key, e.val)) = l.map (fun p => (g p.1, f p.2)) ∧ Stamped es c
theorem MapV.nil {g : κ → Value} {f : β → Value} : MapV g f #[] 0 [] := ⟨rfl, stamped_empty 0⟩
theorem MapV.empty {g : κ → Value} {f : β → Value} (c : Nat) : MapV g f #[] c [] := ⟨rfl, stamped_empty c⟩
theorem MapV.keys {g : κ → Value} {f : β → Value} {es : Array MapEntry} {c : Nat} {l : List (κ × β)} (h : MapV g f es c l) : es.toList.map (·.key) = l.map (fun p => g p.1) := by
  have := congrArg (List.map (·.1)) h.1
  simpa [List.map_map, Function.comp_def] using this
theorem MapV.nodup {g : κ → Value} {f : β → Value} {es : Array MapEntry} {c : Nat} {l : List (κ × β)} (h : MapV g f es c l) : (l.map (·.1)).Nodup := by
  have h1 := h.2.2.2
  rw [h.keys] at h1
  refine List.pairwise_map.2 ((List.pairwise_map.1 h1).imp fun hne e => hne (by rw [e]))
theorem MapV.size {g : κ → Value} {f : β → Value} {es : Array MapEntry} {c : Nat} {l : List (κ × β)} (h : MapV g f es c l) : es.size = l.length := by
  have := congrArg List.length h.1; simpa using this
end
section
variable {κ β : Type} [DecidableEq κ]
theorem findNow_key {g : κ → Value} {f : β → Value} {d : TypeDesc} (hd : ∀ a b, Instr.sameNow d (g a) (g b) = some (decide (a = b))) (k : κ) : ∀ (es : List MapEntry) (l : List (κ × β)) (i : Nat), es.map (fun e : MapEntry => (e.key, e.val)) = l.map (fun p => (g p.1, f p.2)) →
    Instr.findNow d (g k) es i = some ((lookB l k i).map fun p => (p.1, f p.2))
  | [], [], i, _ => rfl
  | [], _ :: _, i, h => by simp at h
  | _ :: _, [], i, h => by simp at h
  | e :: es, (a, v) :: l, i, h => by
    simp only [List.map_cons, List.cons.injEq, Prod.mk.injEq] at h
    obtain ⟨⟨h1, h2⟩, h3⟩ := h
    unfold Instr.findNow
    rw [h1, hd]
    by_cases e : k = a
    · rw [decide_eq_true e]; simp [lookB, e, h2]
    · rw [decide_eq_false e]; simp only
      rw [findNow_key hd k es l (i + 1) h3]; simp [lookB, e]
end
theorem map_eraseB {α γ : Type} (f : α → γ) : ∀ (l : List α) (i : Nat), (l.eraseIdx i).map f = (l.map f).eraseIdx i
  | [], _ => rfl
  | _ :: _, 0 => rfl
  | x :: l, i + 1 => by rw [List.eraseIdx_cons_succ, List.map_cons, List.map_cons, List.eraseIdx_cons_succ, map_eraseB f l i]
def valB {β : Type} (f : β → Value) (z : Value) : Option β → Value
  | some v => f v
  | none => z
section ops
variable {P : Program} {ρ : Operand → Value} {E w : World} {ss : List (List Hp)} {K : Value → World → Prop} {dst : Option Tmp} {T : TypeId} {pos : String} {after : Array Edge} {g : Option (Nat × Bool)}
variable {κ β : Type} [DecidableEq κ] {gk : κ → Value} {f : β → Value}
theorem o_lookupB {x y : Operand} {t kt et : TypeId} {b : Nat} {es : Array MapEntry} {c : Nat} {l : List (κ × β)} {z : Value} {sz by_ : Nat} {k : κ} {ok : Bool} (ht : P.underlying t = some (.map kt et)) (hk : KeyAt P kt gk) (hz : TI P et z sz by_)
    (hx : ρ x = .map (some b)) (hy : ρ y = gk k) (H : Has E w ss) {L : List Hp} (hL : L ⊆ ss.flatten) (hb : L = [Hp.one b (.map es c)]) (he : MapV gk f es c l)
    (hK : K (if ok then .tuple #[valB f z (getB l k), .bool (getB l k).isSome] else valB f z (getB l k)) w) :
    OK P ⟨dst, .lookup t x y ok, T, pos, after, g⟩ ρ w K := by
  have hwb := H.at (hL (by rw [hb]; exact List.mem_singleton.2 rfl)) (Hp.one_at b (.map es c))
  obtain ⟨d, hd, hik, hnow⟩ := hk.now
  refine OK.val (run_v ?_) hK
  rw [hx, hy]
  have hf := run_findKey (P := P) (w := w) hd (findNow_key (f := f) hnow k es.toList l 0 he.1)
  obtain ⟨i, hi, hiz, _, _⟩ := hz
  have hc : (Instr.checkKey es.isEmpty 10000 kt (gk k)).run P w = .ok () w := run_checkKey hd (hik k) es.isEmpty 9999
  have hg : (getObj b).run P w = .ok (.map es c) w := by simp [getObj, Sem.run, hwb]
  have hv := lookB_val (β := β) k l 0
  cases hl : lookB l k 0 with
  | none =>
    rw [hl] at hf hv
    have hv : getB l k = none := hv.symm
    rw [hv]
    cases ok <;> simp [Instr.lookup, run_underlying ht, hg, hf, hc, zeroValue, typeInfo, hi, hiz, Result.andThen, valB]
  | some p =>
    rw [hl] at hf hv
    have hv : getB l k = some p.2 := hv.symm
    rw [hv]
    cases ok <;> simp [Instr.lookup, run_underlying ht, hg, hf, hc, Result.andThen, valB]
theorem o_lookupNil {x y : Operand} {t kt et : TypeId} {z : Value} {sz by_ : Nat} {k : κ} {ok : Bool} (ht : P.underlying t = some (.map kt et)) (hk : KeyAt P kt gk) (hz : TI P et z sz by_)
    (hx : ρ x = .map none) (hy : ρ y = gk k) (hK : K (if ok then .tuple #[z, .bool false] else z) w) : OK P ⟨dst, .lookup t x y ok, T, pos, after, g⟩ ρ w K := by
  obtain ⟨d, hd, hik, hnow⟩ := hk.now
  refine OK.val (run_v ?_) hK
  rw [hx, hy]
  have hf := run_findKey (P := P) (w := w) hd (l := []) (k := gk k) (a := none) rfl
  obtain ⟨i, hi, hiz, _, _⟩ := hz
  have hc : (Instr.checkKey true 10000 kt (gk k)).run P w = .ok () w := run_checkKey hd (hik k) true 9999
  cases ok <;> simp [Instr.lookup, run_underlying ht, hf, hc, zeroValue, typeInfo, hi, hiz, Result.andThen]
theorem o_mapUpdateB {x y u : Operand} {t kt et : TypeId} {b : Nat} {es : Array MapEntry} {c : Nat} {l : List (κ × β)} {v : β} {k : κ} (ht : P.underlying t = some (.map kt et)) (hk : KeyAt P kt gk)
    (hx : ρ x = .map (some b)) (hy : ρ y = gk k) (hu : ρ u = f v) (H : Has E w ([Hp.one b (.map es c)] :: ss)) (he : MapV gk f es c l)
    (hK : ∀ es' c' w', MapV gk f es' c' (putB l k v) → Has E w' ([Hp.one b (.map es' c')] :: ss) → K undef w') :
    OK P ⟨dst, .mapUpdate t x y u, T, pos, after, g⟩ ρ w K := by
  have hwb : w.heap[b]? = some (.map es c) := H.at (h := Hp.one b (.map es c)) (by simp) (Hp.one_at _ _)
  obtain ⟨d, hd, hik, hnow⟩ := hk.now
  have hf := run_findKey (P := P) (w := w) hd (findNow_key (f := f) hnow k es.toList l 0 he.1)
  have hc : (Instr.checkKey false 10000 kt (gk k)).run P w = .ok () w := run_checkKey hd (hik k) false 9999
  have hg : (getObj b).run P w = .ok (.map es c) w := by simp [getObj, Sem.run, hwb]
  have hs : ∀ o, (setObj b o).run P w = .ok () { w with heap := w.heap.setIfInBounds b o } := fun o => run_setObj_map o hwb
  cases hl : lookB l k 0 with
  | none =>
    rw [hl] at hf
    refine OK.skip (w' := { w with heap := w.heap.setIfInBounds b (.map (es.push ⟨gk k, f v, c⟩) (c + 1)) }) (run_u ?_) (hK _ _ _ ⟨?_, stamped_push he.2 ?_⟩ H.setMap)
    · rw [hx, hy, hu]; simp [Instr.mapUpdate, run_underlying ht, hg, hf, hc, hs, Result.andThen]
    · rw [putB_new k v l 0 hl]; simp [he.1]
    · intro x hx e
      have h1 : x.key ∈ es.toList.map (·.key) := List.mem_map.2 ⟨x, hx, rfl⟩
      rw [he.keys, e] at h1
      obtain ⟨p, hp, hpe⟩ := List.mem_map.1 h1
      have hpk := hk.inj _ _ hpe
      have h2 := (getB_mem (k := k) (l := l)).2 (List.mem_map.2 ⟨p, hp, hpk⟩)
      rw [← lookB_val k l 0, hl] at h2; cases h2
  | some p =>
    obtain ⟨i, v0⟩ := p
    rw [hl] at hf
    have hi := lookB_get k l i v0 hl
    have hes : ∃ e, es[i]? = some e ∧ e.key = gk k := by
      have h1 : (es.toList.map (fun e : MapEntry => (e.key, e.val)))[i]? = some (gk k, f v0) := by rw [he.1, List.getElem?_map, hi]; rfl
      rw [List.getElem?_map, Option.map_eq_some_iff] at h1
      obtain ⟨e, h2, h3⟩ := h1
      exact ⟨e, by simpa using h2, congrArg Prod.fst h3⟩
    obtain ⟨e, h2, h3⟩ := hes
    have hst : (Instr.keyThatStays (gk k) (gk k)).run P w = .ok (gk k) w := by simp [Instr.keyThatStays, hk.bits k]
    refine OK.skip (w' := { w with heap := w.heap.setIfInBounds b (.map (es.modify i fun e => { e with key := gk k, val := f v }) c) }) (run_u ?_) (hK _ _ _ ⟨?_, stamped_modify he.2 i (fun e => { e with key := gk k, val := f v }) (fun _ _ => rfl) (fun e' _ h => ?_)⟩ H.setMap)
    · rw [hx, hy, hu]; simp [Instr.mapUpdate, run_underlying ht, hg, hf, hc, hs, Result.andThen, h2, h3, hst]
    · rw [putB_at k v l i v0 hl, Array.toList_modify, modify_map (fun e : MapEntry => { e with key := gk k, val := f v }) (fun e : MapEntry => (e.key, e.val)) (gk k, f v) (fun _ => rfl), he.1, List.map_set]
    · rw [h2] at h; cases h; exact h3.symm
theorem o_delete {x y : Operand} {t kt et t2 : TypeId} {b : Nat} {es : Array MapEntry} {c : Nat} {l : List (κ × β)} {k : κ} (ht : P.underlying t = some (.map kt et)) (hk : KeyAt P kt gk)
    (hx : ρ x = .map (some b)) (hy : ρ y = gk k) (H : Has E w ([Hp.one b (.map es c)] :: ss)) (he : MapV gk f es c l)
    (hK : ∀ es' c' w', MapV gk f es' c' (delB l k) → Has E w' ([Hp.one b (.map es' c')] :: ss) → K (.tuple #[]) w') :
    OK P ⟨dst, .call ⟨.builtin .delete, #[x, y], #[t, t2]⟩, T, pos, after, g⟩ ρ w K := by
  have hwb : w.heap[b]? = some (.map es c) := H.at (h := Hp.one b (.map es c)) (by simp) (Hp.one_at _ _)
  obtain ⟨d, hd, hik, hnow⟩ := hk.now
  have hf := run_findKey (P := P) (w := w) hd (findNow_key (f := f) hnow k es.toList l 0 he.1)
  have hc : (Instr.checkKey es.isEmpty 10000 kt (gk k)).run P w = .ok () w := run_checkKey hd (hik k) es.isEmpty 9999
  have hg : (getObj b).run P w = .ok (.map es c) w := by simp [getObj, Sem.run, hwb]
  have hs : ∀ o, (setObj b o).run P w = .ok () { w with heap := w.heap.setIfInBounds b o } := fun o => run_setObj_map o hwb
  cases hl : lookB l k 0 with
  | none =>
    rw [hl] at hf
    refine o_call_builtin (v := .tuple #[]) (w' := { w with heap := w.heap.setIfInBounds b (.map es c) }) ?_ (hK _ _ _ (by rw [delB_none k l 0 hl]; exact he) H.setMap)
    simp [hx, hy, builtin, Builtin.delete_, run_underlying ht, hg, hf, hc, hs, Result.andThen]
  | some p =>
    obtain ⟨i, v0⟩ := p
    rw [hl] at hf
    have hi := lookB_get k l i v0 hl
    have hlt : i < es.size := by rw [he.size]; exact (List.getElem?_eq_some_iff.1 hi).1
    refine o_call_builtin (v := .tuple #[]) (w' := { w with heap := w.heap.setIfInBounds b (.map (es.eraseIdxIfInBounds i) c) }) ?_ (hK _ _ _ ⟨?_, stamped_erase he.2 i⟩ H.setMap)
    · simp [hx, hy, builtin, Builtin.delete_, run_underlying ht, hg, hf, hc, hs, Result.andThen]
    · rw [delB_at k l i v0 hl, map_eraseB, ← he.1]
      unfold Array.eraseIdxIfInBounds
      rw [dif_pos hlt, Array.toList_eraseIdx, map_eraseB]
end ops
section ops
variable {P : Program} {ρ : Operand → Value} {E w : World} {ss : List (List Hp)} {K : Value → World → Prop} {dst : Option Tmp} {T : TypeId} {pos : String} {after : Array Edge} {g : Option (Nat × Bool)}
variable {κ β : Type} {gk : κ → Value} {f : β → Value}
theorem o_clearMap {x : Operand} {t kt et : TypeId} {b : Nat} {es : Array MapEntry} {c : Nat} {l : List (κ × β)} (ht : P.underlying t = some (.map kt et))
    (hx : ρ x = .map (some b)) (H : Has E w ([Hp.one b (.map es c)] :: ss)) (he : MapV gk f es c l)
    (hK : ∀ es' c' w', MapV gk f es' c' ([] : List (κ × β)) → Has E w' ([Hp.one b (.map es' c')] :: ss) → K (.tuple #[]) w') :
    OK P ⟨dst, .call ⟨.builtin .clear, #[x], #[t]⟩, T, pos, after, g⟩ ρ w K := by
  have hwb : w.heap[b]? = some (.map es c) := H.at (h := Hp.one b (.map es c)) (by simp) (Hp.one_at _ _)
  have hg : (getObj b).run P w = .ok (.map es c) w := by simp [getObj, Sem.run, hwb]
  have hs : ∀ o, (setObj b o).run P w = .ok () { w with heap := w.heap.setIfInBounds b o } := fun o => run_setObj_map o hwb
  refine o_call_builtin (v := .tuple #[]) (w' := { w with heap := w.heap.setIfInBounds b (.map #[] c) }) ?_ (hK _ _ _ (MapV.empty c) H.setMap)
  simp [hx, builtin, Builtin.clear_, run_underlying ht, hg, hs, Result.andThen]
theorem o_lenMap {x : Operand} {t kt et : TypeId} {b : Nat} {es : Array MapEntry} {c : Nat} {l : List (κ × β)} (ht : P.underlying t = some (.map kt et))
    (hx : ρ x = .map (some b)) (H : Has E w ss) {L : List Hp} (hL : L ⊆ ss.flatten) (hb : L = [Hp.one b (.map es c)]) (he : MapV gk f es c l) (hK : K (.int .i64 l.length) w) :
    OK P ⟨dst, .call ⟨.builtin .len, #[x], #[t]⟩, T, pos, after, g⟩ ρ w K := by
  have hwb := H.at (hL (by rw [hb]; exact List.mem_singleton.2 rfl)) (Hp.one_at b (.map es c))
  have hg : (getObj b).run P w = .ok (.map es c) w := by simp [getObj, Sem.run, hwb]
  refine o_call_builtin (w' := w) ?_ hK
  simp [hx, builtin, Builtin.len_, run_underlying ht, hg, Result.andThen, goInt, he.size]
end ops
section ops
variable {P : Program} {ρ : Operand → Value} {E w : World} {ss : List (List Hp)} {K : Value → World → Prop} {dst : Option Tmp} {T : TypeId} {pos : String} {after : Array Edge} {g : Option (Nat × Bool)}
variable {κ : Type} [DecidableEq κ] {gk : κ → Value}
theorem valB_S (o : Option (List UInt8)) : valB sV (S []) o = S (o.getD []) := by cases o <;> rfl
theorem o_lookupSk {x y : Operand} {t kt et : TypeId} {b : Nat} {es : Array MapEntry} {c : Nat} {l : List (κ × List UInt8)} {sz by_ : Nat} {k : κ} (ht : P.underlying t = some (.map kt et)) (hk : KeyAt P kt gk) (hz : TI P et (S []) sz by_)
    (hx : ρ x = .map (some b)) (hy : ρ y = gk k) (H : Has E w ss) {L : List Hp} (hL : L ⊆ ss.flatten) (hb : L = [Hp.one b (.map es c)]) (he : MapV gk sV es c l)
    (hK : K (.tuple #[S ((getB l k).getD []), .bool (getB l k).isSome]) w) : OK P ⟨dst, .lookup t x y true, T, pos, after, g⟩ ρ w K :=
  o_lookupB (f := sV) ht hk hz hx hy H hL hb he (by rw [if_pos rfl, valB_S]; exact hK)
theorem o_lookupS {x y : Operand} {t kt et : TypeId} {b : Nat} {es : Array MapEntry} {c : Nat} {l : List (κ × List UInt8)} {sz by_ : Nat} {k : κ} (ht : P.underlying t = some (.map kt et)) (hk : KeyAt P kt gk) (hz : TI P et (S []) sz by_)
    (hx : ρ x = .map (some b)) (hy : ρ y = gk k) (H : Has E w ss) {L : List Hp} (hL : L ⊆ ss.flatten) (hb : L = [Hp.one b (.map es c)]) (he : MapV gk sV es c l)
    (hK : K (S ((getB l k).getD [])) w) : OK P ⟨dst, .lookup t x y false, T, pos, after, g⟩ ρ w K :=
  o_lookupB (f := sV) ht hk hz hx hy H hL hb he (by rw [if_neg (by decide), valB_S]; exact hK)
end ops
theorem key_int {P : Program} {kt : TypeId} (h : P.underlying kt = some (.int .i64)) : KeyAt P kt iV :=
  ⟨fun a b e => by simpa [iV] using e, ⟨_, h, fun _ => rfl, fun a b => by simp only [iV, Instr.sameNow, if_true]; rfl⟩, fun a => by simp [iV, Instr.sameBits]⟩
theorem bytes_beq (a b : List UInt8) : ((⟨a.toArray⟩ : ByteArray) == ⟨b.toArray⟩) = decide (a = b) := by
  show (a.toArray == b.toArray) = _
  by_cases e : a = b
  · subst e; simp
  · simp [e]
theorem key_string {P : Program} {kt : TypeId} (h : P.underlying kt = some .string) : KeyAt P kt S :=
  ⟨fun a b e => by simpa [S] using e, ⟨_, h, fun _ => trivial, fun a b => by simp only [S, Instr.sameNow, bytes_beq]⟩, fun a => by simp only [S, Instr.sameBits, bytes_beq, decide_true]⟩
end Go.Q
namespace Go.Q
set_option linter.unusedVariables false
/-- numbers that are led to one by one -/
def wk (l : Edges) : Int → List Int → Prop
  | _, [] => True
  | a, x :: r => (a, x) ∈ l ∧ wk l x r
def la : Int → List Int → Int
  | a, [] => a
  | _, x :: r => la x r
theorem la_snoc (x : Int) : ∀ (a : Int) (r : List Int), la a (r ++ [x]) = x
  | _, [] => rfl
  | _, y :: r => la_snoc x y r
theorem wk_app {l : Edges} : ∀ {a : Int} {r s : List Int}, wk l a (r ++ s) ↔ wk l a r ∧ wk l (la a r) s
  | a, [], s => by simp [wk, la]
  | a, y :: r, s => by simp only [List.cons_append, wk, la]; rw [wk_app (a := y) (r := r)]; exact and_assoc.symm
theorem la_app : ∀ (a : Int) (r s : List Int), la a (r ++ s) = la (la a r) s
  | _, [], _ => rfl
  | _, y :: r, s => la_app y r s
theorem la_last : ∀ (a : Int) (r : List Int), (a :: r).getLast? = some (la a r)
  | _, [] => rfl
  | a, y :: r => by rw [List.getLast?_cons_cons]; exact la_last y r
theorem wk_cut {l : Edges} {to : Int} : ∀ (r : List Int) (a : Int), wk l a r → (la a r, to) ∈ l → ∃ r', r'.length ≤ r.length ∧ wk l a r' ∧ (la a r', to) ∈ l ∧ r'.Nodup
  | [], a, h, e => ⟨[], Nat.le_refl _, h, e, List.nodup_nil⟩
  | x :: r, a, h, e => by
    obtain ⟨r1, h1, h2, h3, h4⟩ := wk_cut r x h.2 e
    by_cases hx : x ∈ r1
    · obtain ⟨p, q, rfl⟩ := List.append_of_mem hx
      have hn := List.nodup_append.1 h4
      have h5 := (wk_app.1 h2).2
      refine ⟨x :: q, ?_, ⟨h.1, h5.2⟩, ?_, hn.2.1⟩
      · simp only [List.length_append, List.length_cons] at h1 ⊢; omega
      · rw [la_app] at h3; exact h3
    · exact ⟨x :: r1, by simp only [List.length_cons]; omega, ⟨h.1, h2⟩, h3, List.nodup_cons.2 ⟨hx, h4⟩⟩
theorem nodup_len : ∀ (a b : List Int), a.Nodup → (∀ x ∈ a, x ∈ b) → a.length ≤ b.length
  | [], _, _, _ => Nat.zero_le _
  | x :: a, b, h, hs => by
    have h2 := List.nodup_cons.1 h
    have hx := hs x (List.mem_cons_self ..)
    have := nodup_len a (b.erase x) h2.2 fun y hy => (List.mem_erase_of_ne (fun e => h2.1 (by rw [← e]; exact hy))).2 (hs y (List.mem_cons_of_mem _ hy))
    rw [List.length_erase_of_mem hx] at this
    have : 0 < b.length := List.length_pos_of_mem hx
    rw [List.length_cons]; omega
theorem wk_snd {l : Edges} : ∀ (r : List Int) (a : Int), wk l a r → ∀ x ∈ r, ∃ y, (y, x) ∈ l
  | [], _, _, _, h => by simp at h
  | z :: r, a, h, x, hx => by
    rcases List.mem_cons.1 hx with rfl | hx
    · exact ⟨a, h.1⟩
    · exact wk_snd r z h.2 x hx
theorem stepsL_is {l : Edges} {to : Int} : ∀ (n k : Nat) (now : List Int), stepsL l to n k now ≠ 0 → ∃ j, stepsL l to n k now = k + j ∧ ∃ x ∈ now, ∃ r : List Int, r.length = j ∧ wk l x r ∧ (la x r, to) ∈ l
  | 0, _, _, h => absurd rfl h
  | n + 1, k, now, h => by
    rw [stepsL] at h ⊢
    by_cases g : to ∈ nextS l now
    · rw [if_pos g]
      obtain ⟨x, hx, e⟩ := nextS_mem.1 g
      exact ⟨0, rfl, x, hx, [], rfl, trivial, e⟩
    · rw [if_neg g] at h ⊢
      obtain ⟨j, h1, x, hx, r, h2, h3, h4⟩ := stepsL_is n (k + 1) _ h
      obtain ⟨y, hy, e⟩ := nextS_mem.1 hx
      exact ⟨j + 1, by omega, y, hy, x :: r, by simp only [List.length_cons]; omega, ⟨e, h3⟩, h4⟩
theorem stepsL_of {l : Edges} {to : Int} : ∀ (n k : Nat) (now : List Int) (x : Int) (r : List Int), x ∈ now → wk l x r → (la x r, to) ∈ l → r.length < n → k ≤ stepsL l to n k now ∧ stepsL l to n k now ≤ k + r.length
  | 0, _, _, _, _, _, _, _, h => by omega
  | n + 1, k, now, x, r, hx, h, e, hl => by
    rw [stepsL]
    by_cases g : to ∈ nextS l now
    · rw [if_pos g]; omega
    · rw [if_neg g]
      cases r with
      | nil => exact absurd (nextS_mem.2 ⟨x, hx, e⟩) g
      | cons y r =>
        have := stepsL_of n (k + 1) (nextS l now) y r (nextS_mem.2 ⟨x, hx, h.1⟩) h.2 e (by simp only [List.length_cons] at hl; omega)
        simp only [List.length_cons]; omega
theorem steps_is {l : Edges} {a to : Int} {k : Nat} (h : stepsS l a to = k + 1) : ∃ r : List Int, r.length = k ∧ wk l a r ∧ (la a r, to) ∈ l := by
  obtain ⟨j, h1, x, hx, r, h2, h3, h4⟩ := stepsL_is (l := l) (to := to) (l.length + 1) 1 [a] (by unfold stepsS at h; omega)
  rw [List.mem_singleton.1 hx] at h3 h4
  exact ⟨r, by unfold stepsS at h; omega, h3, h4⟩
theorem steps_of {l : Edges} {a to : Int} {r : List Int} (h : wk l a r) (e : (la a r, to) ∈ l) : 1 ≤ stepsS l a to ∧ stepsS l a to ≤ r.length + 1 := by
  obtain ⟨r', h1, h2, h3, h4⟩ := wk_cut r a h e
  have h5 : r'.length ≤ l.length := by
    have := nodup_len r' (l.map (·.2)) h4 fun x hx => by obtain ⟨y, hy⟩ := wk_snd r' a h2 x hx; exact List.mem_map.2 ⟨_, hy, rfl⟩
    rwa [List.length_map] at this
  have := stepsL_of (l := l) (to := to) (l.length + 1) 1 [a] a r' (by simp) h2 h3 (by omega)
  unfold stepsS; omega
/-- which of two ways of as many numbers is the lesser one -/
def lx : List Int → List Int → Prop
  | x :: w, y :: v => x < y ∨ (x = y ∧ lx w v)
  | [], _ :: _ => True
  | _, [] => False
theorem lx_irr : ∀ w, ¬ lx w w
  | [] => fun h => h
  | x :: w => fun h => h.elim (fun g => by omega) (fun g => lx_irr w g.2)
theorem lx_tr : ∀ {u v w : List Int}, lx u v → lx v w → lx u w
  | [], _ :: _, _ :: _, _, _ => trivial
  | [], _ :: _, [], _, h => h.elim
  | [], [], _, h, _ => h.elim
  | _ :: _, [], _, h, _ => h.elim
  | _ :: _, _ :: _, [], _, h => h.elim
  | x :: u, y :: v, z :: w, h, g => by
    rcases h with h | ⟨rfl, h⟩ <;> rcases g with g | ⟨rfl, g⟩
    · exact .inl (by omega)
    · exact .inl h
    · exact .inl g
    · exact .inr ⟨rfl, lx_tr h g⟩
theorem lx_app {s t : List Int} : ∀ {u v : List Int}, u.length = v.length → lx u v → lx (u ++ s) (v ++ t)
  | [], [], _, h => h.elim
  | [], _ :: _, h, _ => by simp at h
  | _ :: _, [], h, _ => by simp at h
  | x :: u, y :: v, hl, h => by
    rcases h with h | ⟨rfl, h⟩
    · exact .inl h
    · exact .inr ⟨rfl, lx_app (by simpa using hl) h⟩
theorem lx_same {s t : List Int} : ∀ (u : List Int), lx s t → lx (u ++ s) (u ++ t)
  | [], h => h
  | x :: u, h => .inr ⟨rfl, lx_same u h⟩
def slex (w v : List Int) : Prop := w.length < v.length ∨ (w.length = v.length ∧ lx w v)
theorem slex_tr {u v w : List Int} (h : slex u v) (g : slex v w) : slex u w := by
  rcases h with h | ⟨h, h'⟩ <;> rcases g with g | ⟨g, g'⟩
  · exact .inl (by omega)
  · exact .inl (by omega)
  · exact .inl (by omega)
  · exact .inr ⟨by omega, lx_tr h' g'⟩
theorem find_least {p : Int → Bool} : ∀ {m : List Int} {x : Int}, m.Pairwise (· < ·) → x ∈ m → p x = true → ∃ y, m.find? p = some y ∧ y ∈ m ∧ p y = true ∧ ∀ z ∈ m, p z = true → y ≤ z
  | [], _, _, h, _ => by simp at h
  | z :: m, x, hs, hx, hp => by
    have h2 := List.pairwise_cons.1 hs
    cases hz : p z with
    | true =>
      refine ⟨z, by rw [List.find?_cons, hz], by simp, hz, fun u hu _ => ?_⟩
      rcases List.mem_cons.1 hu with rfl | hu
      · omega
      · have := h2.1 u hu; omega
    | false =>
      have hxm : x ∈ m := (List.mem_cons.1 hx).resolve_left (fun e => by rw [e, hz] at hp; cases hp)
      obtain ⟨y, h3, h4, h5, h6⟩ := find_least h2.2 hxm hp
      refine ⟨y, by rw [List.find?_cons, hz]; exact h3, List.mem_cons_of_mem _ h4, h5, fun u hu hpu => ?_⟩
      exact h6 u ((List.mem_cons.1 hu).resolve_left (fun e => by rw [e, hz] at hpu; cases hpu)) hpu
theorem tail_is {l : Edges} {to : Int} : ∀ (k : Nat) (cur : Int), stepsS l cur to = k + 1 → wk l cur (tailS l to k cur) ∧ (la cur (tailS l to k cur), to) ∈ l ∧ (tailS l to k cur).length = k ∧ ∀ r : List Int, r.length = k → wk l cur r → (la cur r, to) ∈ l → ¬ lx r (tailS l to k cur)
  | 0, cur, h => by
    obtain ⟨r, h1, h2, h3⟩ := steps_is h
    obtain rfl := List.eq_nil_of_length_eq_zero h1
    exact ⟨trivial, h3, rfl, fun r _ _ _ g => by rw [tailS] at g; cases r <;> exact g⟩
  | k + 1, cur, h => by
    have key : ∀ x r, (cur, x) ∈ l → wk l x r → r.length = k → (la x r, to) ∈ l → stepsS l x to = k + 1 := fun x r e hw hl he => by
      have h1 := steps_of hw he
      obtain ⟨m, hm⟩ : ∃ m, stepsS l x to = m + 1 := ⟨stepsS l x to - 1, by omega⟩
      obtain ⟨r2, g1, g2, g3⟩ := steps_is hm
      have h2 := steps_of (l := l) (a := cur) (to := to) (r := x :: r2) ⟨e, g2⟩ g3
      simp only [List.length_cons] at h2; omega
    obtain ⟨r, h1, h2, h3⟩ := steps_is h
    cases r with
    | nil => simp at h1
    | cons x r =>
      have hx := key x r h2.1 h2.2 (by simpa using h1) h3
      obtain ⟨y, f1, f2, f3, f4⟩ := find_least (p := fun x => decide (stepsS l x to = k + 1)) (nextS_sorted l [cur]) (next1_mem.2 h2.1) (decide_eq_true hx)
      obtain ⟨i1, i2, i3, i4⟩ := tail_is k y (of_decide_eq_true f3)
      rw [tailS, f1]
      refine ⟨⟨next1_mem.1 f2, i1⟩, i2, by rw [List.length_cons, i3], fun r' g1 g2 g3 g4 => ?_⟩
      cases r' with
      | nil => simp at g1
      | cons z r' =>
        have hz := key z r' g2.1 g2.2 (by simpa using g1) g3
        have := f4 z (next1_mem.2 g2.1) (decide_eq_true hz)
        rcases g4 with g4 | ⟨rfl, g4⟩
        · omega
        · exact i4 r' (by simpa using g1) g2.2 g3 g4
/-- a way from a -/
def Wy (l : Edges) (a : Int) (w : List Int) : Prop := ∃ r, w = a :: r ∧ wk l a r
theorem Wy.snoc {l : Edges} {a y x : Int} {w : List Int} (h : Wy l a w) (hy : w.getLast? = some y) (e : (y, x) ∈ l) : Wy l a (w ++ [x]) := by
  obtain ⟨r, rfl, h⟩ := h
  rw [la_last] at hy
  obtain rfl := Option.some.inj hy
  exact ⟨r ++ [x], rfl, wk_app.2 ⟨h, e, trivial⟩⟩
structure TW (l : Edges) (a to : Int) (T : List Int) (n : Nat) : Prop where
  wy : Wy l a T
  len : T.length = n
  last : ∃ y, T.getLast? = some y ∧ (y, to) ∈ l
  least : ∀ w y, Wy l a w → w.getLast? = some y → (y, to) ∈ l → n ≤ w.length ∧ (w.length = n → ¬ lx w T)
theorem way_is {l : Edges} {a to : Int} (h : stepsS l a to ≠ 0) : TW l a to (rwayS l a to) (stepsS l a to) := by
  obtain ⟨k, hk⟩ : ∃ k, stepsS l a to = k + 1 := ⟨stepsS l a to - 1, by omega⟩
  obtain ⟨h1, h2, h3, h4⟩ := tail_is k a hk
  have e : rwayS l a to = a :: tailS l to k a := by rw [rwayS, if_neg h, hk]; rfl
  rw [e, hk]
  refine ⟨⟨_, rfl, h1⟩, by rw [List.length_cons, h3], ⟨_, la_last _ _, h2⟩, fun w y hw hy e => ?_⟩
  obtain ⟨r, rfl, hr⟩ := hw
  rw [la_last] at hy
  obtain rfl := Option.some.inj hy
  have := steps_of hr e
  refine ⟨by rw [List.length_cons]; omega, fun hl g => ?_⟩
  rcases g with g | ⟨_, g⟩
  · omega
  · exact h4 r (by simpa using hl) hr e g
theorem way_of {l : Edges} {a to y : Int} {w : List Int} (h : Wy l a w) (hy : w.getLast? = some y) (e : (y, to) ∈ l) : stepsS l a to ≠ 0 := by
  obtain ⟨r, rfl, hr⟩ := h
  rw [la_last] at hy
  obtain rfl := Option.some.inj hy
  have := steps_of hr e; omega
theorem wk_join {l : Edges} {a x y : Int} {w s : List Int} (h : Wy l a w) (hy : w.getLast? = some y) (e : (y, x) ∈ l) (hs : wk l x s) : Wy l a (w ++ x :: s) ∧ (w ++ x :: s).getLast? = some (la x s) := by
  obtain ⟨r, rfl, hr⟩ := h
  rw [la_last] at hy
  obtain rfl := Option.some.inj hy
  refine ⟨⟨r ++ x :: s, rfl, wk_app.2 ⟨hr, e, hs⟩⟩, ?_⟩
  rw [List.cons_append, la_last, la_app]; rfl
/-- a way that leads to the next number of T from before T's beginning: there is none -/
theorem TW.no {l : Edges} {a to x y : Int} {T q : List Int} {n j : Nat} (h : TW l a to T n) (hj : j + 1 < n) (hx : T[j + 1]? = some x) (hq : Wy l a q) (hy : q.getLast? = some y) (e : (y, x) ∈ l) (hs : slex q (T.take (j + 1))) : False := by
  obtain ⟨r, hT, hr⟩ := h.wy
  have hlt : j + 1 < T.length := by rw [h.len]; exact hj
  have hd : T.drop (j + 1) = x :: T.drop (j + 2) := by
    rw [List.drop_eq_getElem_cons hlt]
    have : T[j + 1] = x := by rw [List.getElem?_eq_getElem hlt] at hx; exact Option.some.inj hx
    rw [this]
  have hsp : T = T.take (j + 1) ++ x :: T.drop (j + 2) := by rw [← hd, List.take_append_drop]
  have hrd : r = r.take j ++ x :: T.drop (j + 2) := by
    have := hsp; rw [hT, List.take_succ_cons, List.cons_append] at this
    have := (List.cons.inj this).2; rw [hT]; exact this
  have hw : wk l x (T.drop (j + 2)) := by rw [hrd] at hr; exact (wk_app.1 hr).2.2
  have hl2 : (la x (T.drop (j + 2)), to) ∈ l := by
    obtain ⟨z, hz, e2⟩ := h.last
    rw [hT, la_last, hrd, la_app] at hz
    obtain rfl := Option.some.inj hz
    rw [hT] at e2 ⊢; exact e2
  obtain ⟨w1, w2⟩ := wk_join hq hy e hw
  obtain ⟨g1, g2⟩ := h.least _ _ w1 w2 hl2
  have hlen : (T.take (j + 1)).length = j + 1 := by rw [List.length_take]; omega
  have hdl : (T.drop (j + 2)).length = n - (j + 2) := by rw [List.length_drop, h.len]
  rw [List.length_append, List.length_cons, hdl] at g1 g2
  rcases hs with hs | ⟨hs, hs2⟩
  · omega
  · refine g2 (by omega) ?_
    have g3 := lx_app (s := x :: T.drop (j + 2)) (t := x :: T.drop (j + 2)) hs hs2
    rw [← hsp] at g3; exact g3
theorem TW.next {l : Edges} {a to : Int} {T : List Int} {n j : Nat} (h : TW l a to T n) (hj : j + 1 < n) : ∃ x y, T[j + 1]? = some x ∧ (T.take (j + 1)).getLast? = some y ∧ (y, x) ∈ l ∧ T.take (j + 1) ++ [x] = T.take (j + 2) := by
  obtain ⟨r, hT, hr⟩ := h.wy
  have hlt : j + 1 < T.length := by rw [h.len]; exact hj
  have hd : r.drop j = T[j + 1] :: r.drop (j + 1) := by
    have : j < r.length := by rw [hT] at hlt; simpa using hlt
    rw [List.drop_eq_getElem_cons this]; congr 1; subst hT; simp
  have h2 : wk l a (r.take j ++ T[j + 1] :: r.drop (j + 1)) := by rw [← hd, List.take_append_drop]; exact hr
  refine ⟨T[j + 1], la a (r.take j), List.getElem?_eq_getElem hlt, ?_, (wk_app.1 h2).2.1, ?_⟩
  · subst hT; rw [List.take_succ_cons, la_last]
  · rw [List.take_append_getElem]
structure BI (l : Edges) (a to : Int) (cur : List Int) (qs : List (List Int)) : Prop where
  sorted : cur.Pairwise (· < ·)
  wy : ∀ w ∈ qs, Wy l a w
  srt : qs.Pairwise slex
  near : ∀ w ∈ qs, ∀ h t, qs = h :: t → slex w.dropLast h
  met : ∀ x ∈ cur, ∃ q y, Wy l a q ∧ q.getLast? = some y ∧ (y, x) ∈ l ∧ ∀ h t, qs = h :: t → slex q h
  hit : stepsS l a to ≠ 0 → ∃ j, j < stepsS l a to ∧ (rwayS l a to).take (j + 1) ∈ qs
  len : ∀ w ∈ qs, w.length ≤ cur.length + 1
structure BJ (l : Edges) (a to : Int) (p : List Int) (m : List Int) (cur : List Int) (qs : List (List Int)) : Prop where
  sorted : cur.Pairwise (· < ·)
  wy : ∀ w ∈ p :: qs, Wy l a w
  srt : (p :: qs).Pairwise slex
  near : ∀ w ∈ qs, slex w.dropLast p ∨ ∃ x ∈ m, w = p ++ [x]
  met : ∀ x ∈ cur, (∃ q y, Wy l a q ∧ q.getLast? = some y ∧ (y, x) ∈ l ∧ slex q p) ∨ x ∈ m
  hit : stepsS l a to ≠ 0 → (∃ j, j < stepsS l a to ∧ (rwayS l a to).take (j + 1) ∈ qs) ∨ (∃ j, j + 1 < stepsS l a to ∧ p = (rwayS l a to).take (j + 1) ∧ ∀ x, (rwayS l a to)[j + 1]? = some x → x ∉ m) ∨ p = rwayS l a to
  nohit : to ∉ m
  len : ∀ w ∈ p :: qs, w.length ≤ cur.length + 1
theorem BI.start (l : Edges) (a to : Int) : BI l a to [] [[a]] := by
  refine ⟨List.Pairwise.nil, fun w hw => ?_, List.pairwise_singleton _ _, fun w hw h t e => ?_, fun x h => absurd h (by simp), fun h => ⟨0, by omega, ?_⟩, fun w hw => ?_⟩
  · rw [List.mem_singleton.1 hw]; exact ⟨[], rfl, trivial⟩
  · rw [List.mem_singleton.1 hw]; obtain rfl := (List.cons.inj e).1; exact .inl (by simp)
  · rw [rwayS, if_neg h]; simp
  · rw [List.mem_singleton.1 hw]; simp
theorem BI.open {l : Edges} {a to : Int} {cur : List Int} {p : List Int} {qs : List (List Int)} (h : BI l a to cur (p :: qs)) : BJ l a to p [] cur qs := by
  refine ⟨h.sorted, h.wy, h.srt, fun w hw => .inl (h.near w (List.mem_cons_of_mem _ hw) _ _ rfl), fun x hx => ?_, fun hn => ?_, by simp, h.len⟩
  · obtain ⟨q, y, h1, h2, h3, h4⟩ := h.met x hx
    exact .inl ⟨q, y, h1, h2, h3, h4 _ _ rfl⟩
  · obtain ⟨j, hj, hm⟩ := h.hit hn
    rcases List.mem_cons.1 hm with e | hm
    · by_cases hj2 : j + 1 < stepsS l a to
      · exact .inr (.inl ⟨j, hj2, e.symm, fun _ _ => by simp⟩)
      · refine .inr (.inr ?_)
        rw [← e, List.take_of_length_le]; have := (way_is hn).len; omega
    · exact .inl ⟨j, hj, hm⟩
theorem BJ.done {l : Edges} {a to y : Int} {cur : List Int} {p : List Int} {qs : List (List Int)} (hy : p.getLast? = some y) (h : BJ l a to p (nextS l [y]) cur qs) : BI l a to cur qs := by
  have hs := List.pairwise_cons.1 h.srt
  refine ⟨h.sorted, fun w hw => h.wy w (List.mem_cons_of_mem _ hw), hs.2, fun w hw g t e => ?_, fun x hx => ?_, fun hn => ?_, fun w hw => h.len w (List.mem_cons_of_mem _ hw)⟩
  · have hg := hs.1 g (by rw [e]; simp)
    rcases h.near w hw with g2 | ⟨x, hx, rfl⟩
    · exact slex_tr g2 hg
    · rw [List.dropLast_concat]; exact hg
  · rcases h.met x hx with ⟨q, z, h1, h2, h3, h4⟩ | hx
    · exact ⟨q, z, h1, h2, h3, fun g t e => slex_tr h4 (hs.1 g (by rw [e]; simp))⟩
    · exact ⟨p, y, h.wy p (by simp), hy, next1_mem.1 hx, fun g t e => hs.1 g (by rw [e]; simp)⟩
  · rcases h.hit hn with g | ⟨j, hj, hp, g⟩ | g
    · exact g
    · exfalso
      obtain ⟨x, z, h1, h2, h3, _⟩ := (way_is hn).next hj
      rw [← hp, hy] at h2
      obtain rfl := Option.some.inj h2
      exact g x h1 (next1_mem.2 h3)
    · exfalso
      obtain ⟨z, h1, h2⟩ := (way_is hn).last
      rw [← g, hy] at h1
      obtain rfl := Option.some.inj h1
      exact h.nohit (next1_mem.2 h2)
theorem BI.none {l : Edges} {a to : Int} {cur : List Int} {qs : List (List Int)} (h : BI l a to cur qs) (hl : qs.length = 0) : rwayS l a to = [] := by
  obtain rfl := List.eq_nil_of_length_eq_zero hl
  rw [rwayS, if_pos]
  refine Classical.byContradiction fun hn => ?_
  obtain ⟨j, _, hm⟩ := h.hit hn
  simp at hm
theorem BJ.ret {l : Edges} {a to y : Int} {m cur : List Int} {p : List Int} {qs : List (List Int)} (h : BJ l a to p m cur qs) (hy : p.getLast? = some y) (e : to ∈ nextS l [y]) : p = rwayS l a to := by
  have e := next1_mem.1 e
  have hw := h.wy p (by simp)
  have hn := way_of hw hy e
  have T := way_is hn
  obtain ⟨g1, g2⟩ := T.least p y hw hy e
  rcases h.hit hn with ⟨j, hj, hm⟩ | ⟨j, hj, hp, _⟩ | g
  · exfalso
    have hlt : ((rwayS l a to).take (j + 1)).length = j + 1 := by rw [List.length_take, T.len]; omega
    rcases (List.pairwise_cons.1 h.srt).1 _ hm with g | ⟨g, g3⟩
    · omega
    · refine g2 (by omega) ?_
      rwa [List.take_of_length_le (by rw [T.len]; omega)] at g3
  · exfalso
    have : p.length ≤ j + 1 := by rw [hp, List.length_take]; omega
    omega
  · exact g
theorem m_sorted {m : List Int} (hs : m.Pairwise (· < ·)) {i : Nat} {x : Int} (hx : m[i]? = some x) : ∀ z ∈ m.take i, z < x := fun z hz => by
  have hlt : i < m.length := (List.getElem?_eq_some_iff.1 hx).1
  have e := (List.getElem?_eq_some_iff.1 hx).2
  obtain ⟨k, hk⟩ := List.mem_iff_getElem?.1 hz
  rw [List.getElem?_take] at hk
  split at hk
  · rename_i hki
    obtain ⟨hk2, e2⟩ := List.getElem?_eq_some_iff.1 hk
    have := List.pairwise_iff_getElem.1 hs k i hk2 hlt hki
    omega
  · cases hk
/-- one more number that p leads to -/
theorem BJ.step {l : Edges} {a to y x : Int} {i : Nat} {cur : List Int} {p : List Int} {qs more : List (List Int)} (h : BJ l a to p ((nextS l [y]).take i) cur qs) (hy : p.getLast? = some y) (hx : (nextS l [y])[i]? = some x) (hne : x ≠ to)
    (hm : (more = [] ∧ x ∈ cur) ∨ (more = [p ++ [x]] ∧ x ∉ cur)) : BJ l a to p ((nextS l [y]).take (i + 1)) (withS x false cur) (qs ++ more) := by
  have hxm : x ∈ nextS l [y] := List.mem_of_getElem? hx
  have e := next1_mem.1 hxm
  have htk : ∀ z, z ∈ (nextS l [y]).take (i + 1) ↔ z ∈ (nextS l [y]).take i ∨ z = x := fun z => by rw [take_succ_of hx, List.mem_append, List.mem_singleton]
  have hlt := m_sorted (nextS_sorted l [y]) hx
  have hl := (withS_len x cur h.sorted).1
  have hge : cur.length ≤ (withS x false cur).length := by split at hl <;> omega
  have hpl := h.len p (by simp)
  have hmore : ∀ w ∈ more, w = p ++ [x] ∧ x ∉ cur := fun w hw => by
    rcases hm with ⟨rfl, _⟩ | ⟨rfl, g⟩
    · simp at hw
    · exact ⟨List.mem_singleton.1 hw, g⟩
  refine ⟨withS_sorted x cur h.sorted, fun w hw => ?_, ?_, fun w hw => ?_, fun z hz => ?_, fun hn => ?_, fun g => ?_, fun w hw => ?_⟩
  · rw [← List.cons_append] at hw
    rcases List.mem_append.1 hw with hw | hw
    · exact h.wy w hw
    · rw [(hmore w hw).1]; exact (h.wy p (by simp)).snoc hy e
  · rw [← List.cons_append]
    refine List.pairwise_append.2 ⟨h.srt, ?_, fun w hw v hv => ?_⟩
    · rcases hm with ⟨rfl, _⟩ | ⟨rfl, _⟩
      · exact List.Pairwise.nil
      · exact List.pairwise_singleton _ _
    · rw [(hmore v hv).1]
      rcases List.mem_cons.1 hw with rfl | hw
      · exact .inl (by simp)
      · rcases h.near w hw with g | ⟨z, hz, rfl⟩
        · have hwl : w ≠ [] := by obtain ⟨r, hr, _⟩ := h.wy w (List.mem_cons_of_mem _ hw); rw [hr]; simp
          have hdl : w.dropLast.length = w.length - 1 := List.length_dropLast
          have hw1 : 0 < w.length := List.length_pos_iff.2 hwl
          rcases g with g | ⟨g, g2⟩
          · exact .inl (by rw [List.length_append, List.length_singleton]; omega)
          · refine .inr ⟨by rw [List.length_append, List.length_singleton]; omega, ?_⟩
            have := lx_app (s := [w.getLast hwl]) (t := [x]) g g2
            rwa [List.dropLast_concat_getLast hwl] at this
        · exact .inr ⟨by simp, lx_same p (.inl (hlt z hz))⟩
  · rcases List.mem_append.1 hw with hw | hw
    · rcases h.near w hw with g | ⟨z, hz, e⟩
      · exact .inl g
      · exact .inr ⟨z, (htk z).2 (.inl hz), e⟩
    · exact .inr ⟨x, (htk x).2 (.inr rfl), (hmore w hw).1⟩
  · rcases (withS_mem x z cur).1 hz with rfl | hz
    · exact .inr ((htk _).2 (.inr rfl))
    · rcases h.met z hz with g | g
      · exact .inl g
      · exact .inr ((htk z).2 (.inl g))
  · rcases h.hit hn with ⟨j, hj, g⟩ | ⟨j, hj, hp, g⟩ | g
    · exact .inl ⟨j, hj, List.mem_append_left _ g⟩
    · obtain ⟨u, v, h1, h2, h3, h4⟩ := (way_is hn).next hj
      by_cases hu : u = x
      · subst hu
        rcases hm with ⟨_, hc⟩ | ⟨rfl, _⟩
        · exfalso
          rcases h.met u hc with ⟨q, z, q1, q2, q3, q4⟩ | g2
          · exact (way_is hn).no hj h1 q1 q2 q3 (hp ▸ q4)
          · exact g u h1 g2
        · exact .inl ⟨j + 1, hj, List.mem_append_right _ (by rw [hp, h4]; simp)⟩
      · refine .inr (.inl ⟨j, hj, hp, fun z hz hzm => ?_⟩)
        rcases (htk z).1 hzm with g2 | g2
        · exact g z hz g2
        · rw [h1] at hz; exact hu ((Option.some.inj hz).trans g2)
    · exact .inr (.inr g)
  · rcases (htk to).1 g with g | g
    · exact h.nohit g
    · exact hne g.symm
  · rw [← List.cons_append] at hw
    rcases List.mem_append.1 hw with hw | hw
    · have := h.len w hw; omega
    · obtain ⟨rfl, hc⟩ := hmore w hw
      rw [if_neg hc] at hl
      rw [List.length_append, List.length_singleton]; omega
theorem BI.from {l : Edges} {a to : Int} {cur : List Int} {qs : List (List Int)} (h : BI l a to cur qs) : cur.length ≤ l.length :=
  len_snd h.sorted fun x hx => by obtain ⟨q, y, _, _, e, _⟩ := h.met x hx; exact ⟨y, e⟩
theorem BJ.from {l : Edges} {a to y : Int} {i : Nat} {cur : List Int} {p : List Int} {qs : List (List Int)} (h : BJ l a to p ((nextS l [y]).take i) cur qs) : cur.length ≤ l.length :=
  len_snd h.sorted fun x hx => by
    rcases h.met x hx with ⟨q, y, _, _, e, _⟩ | g
    · exact ⟨y, e⟩
    · exact ⟨_, next1_mem.1 (List.mem_of_mem_take g)⟩
theorem BJ.sub_len {l : Edges} {a to y x : Int} {i : Nat} {cur : List Int} {p : List Int} {qs : List (List Int)} (h : BJ l a to p ((nextS l [y]).take i) cur qs) (hx : (nextS l [y])[i]? = some x) : (withS x false cur).length ≤ l.length :=
  len_snd (withS_sorted x cur h.sorted) fun z hz => by
    rcases (withS_mem x z cur).1 hz with rfl | hz
    · exact ⟨_, next1_mem.1 (List.mem_of_getElem? hx)⟩
    · rcases h.met z hz with ⟨q, y, _, _, e, _⟩ | g
      · exact ⟨y, e⟩
      · exact ⟨_, next1_mem.1 (List.mem_of_mem_take g)⟩
theorem head_drop {α : Type} {l : List α} {x : α} (h : l[((0 : Int)).toNat]? = some x) : l = x :: l.drop 1 := by
  cases l with
  | nil => simp at h
  | cons y t => obtain rfl : y = x := by simpa using h
                rfl
theorem wy_pos {l : Edges} {a : Int} {w : List Int} (h : Wy l a w) : 1 ≤ w.length := by
  obtain ⟨r, rfl, _⟩ := h; simp
/-- a way as it lies in a row of ways -/
def wyV (q : (Option Addr × Nat) × List Int) : Value := .slice q.1.1 q.2.length q.1.2
theorem one_wyV (l : List ((Option Addr × Nat) × List Int)) : ∀ u ∈ l.map wyV, u.oneCell' = true := by intro u hu; obtain ⟨x, _, rfl⟩ := List.mem_map.1 hu; rfl
end Go.Q
namespace Go.Q
abbrev Bs := List UInt8
structure Pw where
  off : Bool
  armed : Bool
  left : Int
  uses : Int
def useS (p : Pw) : Pw := if p.off = true then p else ⟨p.armed && decide (p.left = 0), p.armed, p.left - 1, p.uses + 1⟩
def useB (p : Pw) : Bool := !p.off && !(useS p).off
def backS (p : Pw) : Pw := ⟨false, false, p.left, p.uses⟩
def armS (p : Pw) (n : Int) : Pw := ⟨p.off, true, max n 0, p.uses⟩
def PwOk (p : Pw) : Prop := 0 ≤ p.uses ∧ p.uses ≤ 4000000000000000000 ∧ -4000000000000000000 ≤ p.left ∧ p.left ≤ 9223372036854775807
def blankS : Bs := List.replicate 64 0
def fillS (s : Bs) : Bs := s ++ blankS.drop s.length
theorem blank_len : blankS.length = 64 := rfl
theorem fill_len {s : Bs} (h : s.length ≤ 64) : (fillS s).length = 64 := by unfold fillS; rw [List.length_append, List.length_drop, blank_len]; omega
def settleS (lo : List (Int × Bs)) (la : List Bs) (keep : List Int) : List Bs := keep.foldl (fun acc n => match getB lo n with | some s => acc.set n.toNat s | none => acc) la
theorem settle_len (lo : List (Int × Bs)) : ∀ (keep : List Int) (la : List Bs), (settleS lo la keep).length = la.length
  | [], _ => rfl
  | n :: keep, la => by
    show (settleS lo _ keep).length = _
    rw [settle_len lo keep]
    show (match getB lo n with | some s => la.set n.toNat s | none => la).length = _
    split <;> simp
theorem settle_step {lo : List (Int × Bs)} {la : List Bs} {keep : List Int} {k : Nat} {n : Int} (h : keep[k]? = some n) : settleS lo la (keep.take (k + 1)) = match getB lo n with | some s => (settleS lo la (keep.take k)).set n.toNat s | none => settleS lo la (keep.take k) := by
  unfold settleS; rw [take_succ_of h, List.foldl_append]; rfl
theorem settle_yes {lo : List (Int × Bs)} {la : List Bs} {keep : List Int} {k : Nat} {n : Int} (h : keep[k]? = some n) (g : (getB lo n).isSome = true) : settleS lo la (keep.take (k + 1)) = (settleS lo la (keep.take k)).set n.toNat ((getB lo n).getD []) := by
  rw [settle_step h]
  cases e : getB lo n with
  | none => rw [e] at g; cases g
  | some s => rfl
theorem settle_no {lo : List (Int × Bs)} {la : List Bs} {keep : List Int} {k : Nat} {n : Int} (h : keep[k]? = some n) (g : (getB lo n).isSome = false) : settleS lo la (keep.take (k + 1)) = settleS lo la (keep.take k) := by
  rw [settle_step h]
  cases e : getB lo n with
  | none => rfl
  | some s => rw [e] at g; cases g
def inS (n : Int) (k : Nat) : Prop := 0 ≤ n ∧ n < (k : Int)
instance (n : Int) (k : Nat) : Decidable (inS n k) := inferInstanceAs (Decidable (_ ∧ _))
/-- what is loose has a place, and a sector's bytes -/
def LoOk (lo : List (Int × Bs)) (k : Nat) : Prop := ∀ p ∈ lo, inS p.1 k ∧ p.2.length = 64
theorem LoOk.get {lo : List (Int × Bs)} {k : Nat} (h : LoOk lo k) {n : Int} (g : (getB lo n).isSome = true) : inS n k := by
  obtain ⟨p, hp, rfl⟩ := List.mem_map.1 (getB_mem.1 g)
  exact (h p hp).1
def keysS (lo : List (Int × Bs)) : List Int := (lo.map (·.1)).mergeSort (fun x y => decide (x ≤ y))
def readS (p : Pw) (la : List Bs) (lo : List (Int × Bs)) (n : Int) : Bs := if p.off = true then [] else if inS n la.length then (if (getB lo n).isSome = true then (getB lo n).getD [] else (la[n.toNat]?).getD []) else []
def readE (p : Pw) (la : List Bs) (n : Int) : Int := if p.off = true then 6 else if inS n la.length then 0 else 1
def writeE (p : Pw) (k : Nat) (n : Int) (s : Bs) : Int := if useB p = true then (if s.length ≤ 64 ∧ inS n k then 0 else 1) else 6
def writeS (p : Pw) (k : Nat) (lo : List (Int × Bs)) (n : Int) (s : Bs) : List (Int × Bs) := if useB p = true ∧ s.length ≤ 64 ∧ inS n k then putB lo n (fillS s) else lo
def syncE (p : Pw) : Int := if useB p = true then 0 else 6
def syncA (p : Pw) (la : List Bs) (lo : List (Int × Bs)) : List Bs := if useB p = true then settleS lo la (keysS lo) else la
def syncO (p : Pw) (lo : List (Int × Bs)) : List (Int × Bs) := if useB p = true then [] else lo
def lastsS (la : List Bs) (n : Int) : Bs := if inS n la.length then (la[n.toNat]?).getD [] else []
def putE (k : Nat) (n : Int) (s : Bs) : Int := if s.length ≤ 64 ∧ inS n k then 0 else 1
def putA (la : List Bs) (n : Int) (s : Bs) : List Bs := if s.length ≤ 64 ∧ inS n la.length then la.set n.toNat (fillS s) else la
def putO (k : Nat) (lo : List (Int × Bs)) (n : Int) (s : Bs) : List (Int × Bs) := if s.length ≤ 64 ∧ inS n k then delB lo n else lo
/-- two heaplets and more, told as one -/
theorem Has.open3 {E w : World} {a b c : List Hp} {ss : List (List Hp)} (H : Has E w ((a ++ (b ++ c)) :: ss)) : Has E w (a :: b :: c :: ss) := by
  unfold Has at *; simpa [List.append_assoc] using H
theorem Has.close3 {E w : World} {a b c : List Hp} {ss : List (List Hp)} (H : Has E w (a :: b :: c :: ss)) : Has E w ((a ++ (b ++ c)) :: ss) := by
  unfold Has at *; simpa [List.append_assoc] using H
theorem Has.all5 {E w : World} {a0 a1 a2 a3 a4 : List Hp} {ss : List (List Hp)} (H : Has E w (a0 :: a1 :: a2 :: a3 :: a4 :: ss)) : Has E w [a0, a1, a2, a3, a4, ss.flatten] := by unfold Has at *; simpa using H
theorem Has.of_all5 {E w : World} {a0 a1 a2 a3 a4 : List Hp} {ss : List (List Hp)} (H : Has E w [a0, a1, a2, a3, a4, ss.flatten]) : Has E w (a0 :: a1 :: a2 :: a3 :: a4 :: ss) := by unfold Has at *; simpa using H
theorem Has.all6 {E w : World} {a0 a1 a2 a3 a4 a5 : List Hp} {ss : List (List Hp)} (H : Has E w (a0 :: a1 :: a2 :: a3 :: a4 :: a5 :: ss)) : Has E w [a0, a1, a2, a3, a4, a5, ss.flatten] := by unfold Has at *; simpa using H
theorem Has.of_all6 {E w : World} {a0 a1 a2 a3 a4 a5 : List Hp} {ss : List (List Hp)} (H : Has E w [a0, a1, a2, a3, a4, a5, ss.flatten]) : Has E w (a0 :: a1 :: a2 :: a3 :: a4 :: a5 :: ss) := by unfold Has at *; simpa using H
theorem Has.all7 {E w : World} {a0 a1 a2 a3 a4 a5 a6 : List Hp} {ss : List (List Hp)} (H : Has E w (a0 :: a1 :: a2 :: a3 :: a4 :: a5 :: a6 :: ss)) : Has E w [a0, a1, a2, a3, a4, a5, a6, ss.flatten] := by unfold Has at *; simpa using H
theorem Has.of_all7 {E w : World} {a0 a1 a2 a3 a4 a5 a6 : List Hp} {ss : List (List Hp)} (H : Has E w [a0, a1, a2, a3, a4, a5, a6, ss.flatten]) : Has E w (a0 :: a1 :: a2 :: a3 :: a4 :: a5 :: a6 :: ss) := by unfold Has at *; simpa using H
theorem Has.all8 {E w : World} {a0 a1 a2 a3 a4 a5 a6 a7 : List Hp} {ss : List (List Hp)} (H : Has E w (a0 :: a1 :: a2 :: a3 :: a4 :: a5 :: a6 :: a7 :: ss)) : Has E w [a0, a1, a2, a3, a4, a5, a6, a7, ss.flatten] := by unfold Has at *; simpa using H
theorem Has.of_all8 {E w : World} {a0 a1 a2 a3 a4 a5 a6 a7 : List Hp} {ss : List (List Hp)} (H : Has E w [a0, a1, a2, a3, a4, a5, a6, a7, ss.flatten]) : Has E w (a0 :: a1 :: a2 :: a3 :: a4 :: a5 :: a6 :: a7 :: ss) := by unfold Has at *; simpa using H
theorem Has.all9 {E w : World} {a0 a1 a2 a3 a4 a5 a6 a7 a8 : List Hp} {ss : List (List Hp)} (H : Has E w (a0 :: a1 :: a2 :: a3 :: a4 :: a5 :: a6 :: a7 :: a8 :: ss)) : Has E w [a0, a1, a2, a3, a4, a5, a6, a7, a8, ss.flatten] := by unfold Has at *; simpa using H
theorem Has.of_all9 {E w : World} {a0 a1 a2 a3 a4 a5 a6 a7 a8 : List Hp} {ss : List (List Hp)} (H : Has E w [a0, a1, a2, a3, a4, a5, a6, a7, a8, ss.flatten]) : Has E w (a0 :: a1 :: a2 :: a3 :: a4 :: a5 :: a6 :: a7 :: a8 :: ss) := by unfold Has at *; simpa using H
theorem Has.all10 {E w : World} {a0 a1 a2 a3 a4 a5 a6 a7 a8 a9 : List Hp} {ss : List (List Hp)} (H : Has E w (a0 :: a1 :: a2 :: a3 :: a4 :: a5 :: a6 :: a7 :: a8 :: a9 :: ss)) : Has E w [a0, a1, a2, a3, a4, a5, a6, a7, a8, a9, ss.flatten] := by unfold Has at *; simpa using H
theorem Has.of_all10 {E w : World} {a0 a1 a2 a3 a4 a5 a6 a7 a8 a9 : List Hp} {ss : List (List Hp)} (H : Has E w [a0, a1, a2, a3, a4, a5, a6, a7, a8, a9, ss.flatten]) : Has E w (a0 :: a1 :: a2 :: a3 :: a4 :: a5 :: a6 :: a7 :: a8 :: a9 :: ss) := by unfold Has at *; simpa using H
theorem Has.all11 {E w : World} {a0 a1 a2 a3 a4 a5 a6 a7 a8 a9 a10 : List Hp} {ss : List (List Hp)} (H : Has E w (a0 :: a1 :: a2 :: a3 :: a4 :: a5 :: a6 :: a7 :: a8 :: a9 :: a10 :: ss)) : Has E w [a0, a1, a2, a3, a4, a5, a6, a7, a8, a9, a10, ss.flatten] := by unfold Has at *; simpa using H
theorem Has.of_all11 {E w : World} {a0 a1 a2 a3 a4 a5 a6 a7 a8 a9 a10 : List Hp} {ss : List (List Hp)} (H : Has E w [a0, a1, a2, a3, a4, a5, a6, a7, a8, a9, a10, ss.flatten]) : Has E w (a0 :: a1 :: a2 :: a3 :: a4 :: a5 :: a6 :: a7 :: a8 :: a9 :: a10 :: ss) := by unfold Has at *; simpa using H
theorem Has.all12 {E w : World} {a0 a1 a2 a3 a4 a5 a6 a7 a8 a9 a10 a11 : List Hp} {ss : List (List Hp)} (H : Has E w (a0 :: a1 :: a2 :: a3 :: a4 :: a5 :: a6 :: a7 :: a8 :: a9 :: a10 :: a11 :: ss)) : Has E w [a0, a1, a2, a3, a4, a5, a6, a7, a8, a9, a10, a11, ss.flatten] := by unfold Has at *; simpa using H
theorem Has.of_all12 {E w : World} {a0 a1 a2 a3 a4 a5 a6 a7 a8 a9 a10 a11 : List Hp} {ss : List (List Hp)} (H : Has E w [a0, a1, a2, a3, a4, a5, a6, a7, a8, a9, a10, a11, ss.flatten]) : Has E w (a0 :: a1 :: a2 :: a3 :: a4 :: a5 :: a6 :: a7 :: a8 :: a9 :: a10 :: a11 :: ss) := by unfold Has at *; simpa using H
end Go.Q
namespace Go.Q
structure Plc where
  key : Bs
  wr : Bool
  own : Int
def plC (a : Plc) : List Value := [S a.key, .bool a.wr, iV a.own]
theorem plC_len (a : Plc) : (plC a).length = 3 := rfl
theorem one_plC (l : List Plc) : ∀ u ∈ l.flatMap plC, u.oneCell' = true := by
  intro u hu
  obtain ⟨p, _, hp⟩ := List.mem_flatMap.1 hu
  simp only [plC, List.mem_cons, List.not_mem_nil, or_false] at hp
  rcases hp with rfl | rfl | rfl <;> rfl
/-- lock.at -/
def atS (l : List Plc) (o : Int) : Int := match l.findIdx? (fun p => decide (p.own = o)) with
  | some i => (i : Int)
  | none => -1
theorem atS_none {l : List Plc} {o : Int} (h : ∀ (j : Nat) (x : Plc), l[j]? = some x → x.own ≠ o) : atS l o = -1 := by
  unfold atS
  rw [List.findIdx?_eq_none_iff.2 fun x hx => by
    obtain ⟨j, hj⟩ := List.getElem?_of_mem hx
    simpa using h j x hj]
theorem atS_some {l : List Plc} {o : Int} {k : Nat} {x : Plc} (h : ∀ j, j < k → ∀ y, l[j]? = some y → y.own ≠ o) (hx : l[k]? = some x) (e : x.own = o) : atS l o = (k : Int) := by
  unfold atS
  obtain ⟨hlt, hk⟩ := List.getElem?_eq_some_iff.1 hx
  rw [List.findIdx?_eq_some_iff_getElem.2 ⟨hlt, by rw [hk]; simpa using e, fun j hj => by
    have := h j hj l[j] (List.getElem?_eq_getElem (by omega))
    simpa using this⟩]
/-- place.clash -/
def clashS (p q : Plc) : Bool := decide (p.own ≠ q.own) && (p.wr || q.wr)
/-- entry.free, hold, wait, grant -/
def freeS (h : List Plc) (p : Plc) : Bool := !(h.any (clashS p))
def holdS (h : List Plc) (p : Plc) : List Plc := if 0 ≤ atS h p.own then h.set (atS h p.own).toNat p else h ++ [p]
def insAt {α : Type} (l : List α) (i : Nat) (p : α) : List α := l.take i ++ [p] ++ l.drop i
def noAt (h : List Plc) (q : Plc) : Bool := decide (atS h q.own < 0)
def lineS (h l : List Plc) : Int := idxG (noAt h) l
def waitS (h l : List Plc) (p : Plc) : List Plc := if atS h p.own < 0 then l ++ [p] else if lineS h l < 0 then l ++ [p] else insAt l (lineS h l).toNat p
def grantS : List Plc → List Plc → List Int × List Plc × List Plc
  | h, [] => ([], h, [])
  | h, p :: t => if freeS h p = true then ((p.own :: (grantS (holdS h p) t).1), (grantS (holdS h p) t).2) else ([], h, p :: t)
theorem atS_lt (l : List Plc) (o : Int) : -1 ≤ atS l o ∧ atS l o < l.length := by
  unfold atS
  cases h : l.findIdx? (fun p => decide (p.own = o)) with
  | none => simp only; omega
  | some i =>
    obtain ⟨hlt, _, _⟩ := List.findIdx?_eq_some_iff_getElem.1 h
    simp only; omega
/-- The table: each key with its holders and its line, in the order in which they came. -/
structure Ent where
  hold : List Plc
  line : List Plc
abbrev Tab := List (Bs × Ent)
def namesS (t : Tab) : List Bs := (t.map (·.1)).mergeSort (fun x y => decide (x ≤ y))
end Go.Q
namespace Go.Q
def ownIs (o : Int) (p : Plc) : Bool := decide (p.own = o)
def keyIs (k : Bs) (p : Plc) : Bool := decide (p.key = k)
theorem atS_idx {l : List Plc} {o : Int} : atS l o = idxG (ownIs o) l := rfl
end Go.Q
namespace Go.Q
theorem grant_stop {h l : List Plc} (hs : l = [] ∨ ∃ x, l[0]? = some x ∧ freeS h x = false) : grantS h l = ([], h, l) := by
  rcases hs with rfl | ⟨x, hx, hf⟩
  · rfl
  · cases l with
    | nil => simp at hx
    | cons p t =>
      obtain rfl : p = x := by simpa using hx
      rw [grantS, if_neg (by rw [hf]; decide)]
theorem grant_go {h l : List Plc} {x : Plc} (hx : l[0]? = some x) (hf : freeS h x = true) : grantS h l = (x.own :: (grantS (holdS h x) (l.drop 1)).1, (grantS (holdS h x) (l.drop 1)).2) := by
  cases l with
  | nil => simp at hx
  | cons p t =>
    obtain rfl : p = x := by simpa using hx
    rw [grantS, if_pos hf]; rfl
theorem holdS_len (h : List Plc) (p : Plc) : (holdS h p).length ≤ h.length + 1 ∧ h.length ≤ (holdS h p).length := by
  unfold holdS; split
  · rw [List.length_set]; omega
  · rw [List.length_append]; simp
theorem grant_len : ∀ (l h : List Plc), (grantS h l).2.1.length + (grantS h l).2.2.length ≤ h.length + l.length
  | [], h => by simp [grantS]
  | p :: t, h => by
    rw [grantS]
    split
    · have := grant_len t (holdS h p); have := holdS_len h p; simp only [List.length_cons]; omega
    · simp
theorem grant_out : ∀ (l h : List Plc), (grantS h l).1.length ≤ l.length
  | [], h => by simp [grantS]
  | p :: t, h => by
    rw [grantS]
    split
    · have := grant_out t (holdS h p); simp only [List.length_cons]; omega
    · simp
def grE (v : Ent) : Ent := ⟨(grantS v.hold v.line).2.1, (grantS v.hold v.line).2.2⟩
end Go.Q
namespace Go.Q
/-- a key's entry, or an empty one -/
def entOf (t : Tab) (k : Bs) : Ent := (getB t k).getD ⟨[], []⟩
def waitsS (t : Tab) (o : Int) : Option Plc := (namesS t).findSome? fun k => (entOf t k).line.find? (ownIs o)
def holdsS (t : Tab) (o : Int) : List Plc := (namesS t).filterMap fun k => (entOf t k).hold.find? (ownIs o)
def edS (hold pre : List Plc) : List Plc → List (Int × Int)
  | [] => []
  | p :: t => ((hold ++ pre).filter (clashS p)).map (fun q => (p.own, q.own)) ++ edS hold (pre ++ [p]) t
def edgesS (t : Tab) : List (Int × Int) := (namesS t).flatMap fun k => edS (entOf t k).hold [] (entOf t k).line
def linS (t : Tab) (k : Bs) : List Int := (entOf t k).line.map (·.own)
def askE (e : Ent) (p : Plc) : Ent × Int :=
  if 0 ≤ atS e.hold p.own ∧ (((e.hold[(atS e.hold p.own).toNat]?).map (·.wr)).getD false = true ∨ p.wr = false) then (e, 0)
  else if freeS e.hold p = true ∧ (0 ≤ atS e.hold p.own ∨ e.line = []) then (⟨holdS e.hold p, e.line⟩, 0)
  else (⟨e.hold, waitS e.hold e.line p⟩, 10)
def askS (t : Tab) (o : Int) (k : Bs) (wr : Bool) : Tab × Int :=
  if o < 0 then (t, 1) else if (waitsS t o).isSome = true then (t, 12) else (putB t k (askE (entOf t k) ⟨k, wr, o⟩).1, (askE (entOf t k) ⟨k, wr, o⟩).2)
def goneS (owners : List Int) (p : Plc) : Bool := decide (p.own ∈ owners)
def leftE (all : Bool) (owners : List Int) (e : Ent) : List Int × List Plc × List Plc :=
  grantS (if all = true then e.hold.filter (fun p => !goneS owners p) else e.hold) (e.line.filter (fun p => !goneS owners p))
def setE (t : Tab) (k : Bs) (e : Ent) : Tab := if e.hold = [] then delB (putB t k e) k else putB t k e
def leaveF (all : Bool) (owners : List Int) : Tab → List Bs → Tab × List Int
  | t, [] => (t, [])
  | t, k :: ks => ((leaveF all owners (setE t k ⟨(leftE all owners (entOf t k)).2.1, (leftE all owners (entOf t k)).2.2⟩) ks).1, (leftE all owners (entOf t k)).1 ++ (leaveF all owners (setE t k ⟨(leftE all owners (entOf t k)).2.1, (leftE all owners (entOf t k)).2.2⟩) ks).2)
def leaveS (all : Bool) (owners : List Int) (t : Tab) : Tab × List Int := leaveF all owners t (namesS t)
/-! the document's -/
def findC (l : List Plc) (o : Int) (k : Bs) : Int := idxG (fun p => ownIs o p && keyIs k p) l
def freeR (H : List Plc) (c : Plc) : Bool := !(H.any fun h => keyIs c.key h && clashS h c)
def holdR (H : List Plc) (c : Plc) : List Plc := if 0 ≤ findC H c.own c.key then H.set (findC H c.own c.key).toNat c else H ++ [c]
def placeR (H L : List Plc) (o : Int) (k : Bs) : Nat := if 0 ≤ findC H o k then (L.findIdx? fun q => keyIs k q && decide (findC H q.own k < 0)).getD L.length else L.length
def askR (H L : List Plc) (o : Int) (k : Bs) (wr : Bool) : (List Plc × List Plc) × Int :=
  if o < 0 then ((H, L), 1)
  else if 0 ≤ idxG (ownIs o) L then ((H, L), 12)
  else if 0 ≤ findC H o k ∧ (((H[(findC H o k).toNat]?).map (·.wr)).getD false = true ∨ wr = false) then ((H, L), 0)
  else if freeR H ⟨k, wr, o⟩ = true ∧ (0 ≤ findC H o k ∨ (L.filter (keyIs k)).length = 0) then ((holdR H ⟨k, wr, o⟩, L), 0)
  else ((H, insAt L (placeR H L o k) ⟨k, wr, o⟩), 10)
def insK (out : List Bs) (k : Bs) : List Bs := match out with
  | [] => [k]
  | x :: t => if Op.bytesLess x k = true then x :: insK t k else if x = k then x :: t else k :: x :: t
def keysR (l : List Plc) : List Bs := l.foldl (fun out p => insK out p.key) []
/-- All that a key's line grants. -/
def grantR (H L : List Plc) (k : Bs) : Nat → List Int × List Plc × List Plc
  | 0 => ([], H, L)
  | n + 1 => match L.findIdx? (keyIs k) with
    | none => ([], H, L)
    | some i => match L[i]? with
      | none => ([], H, L)
      | some c => if freeR H c = true then ((c.own :: (grantR (holdR H c) (L.eraseIdx i) k n).1), (grantR (holdR H c) (L.eraseIdx i) k n).2) else ([], H, L)
def leaveRF : List Plc → List Plc → List Bs → (List Plc × List Plc) × List Int
  | H, L, [] => ((H, L), [])
  | H, L, k :: ks => ((leaveRF (grantR H L k L.length).2.1 (grantR H L k L.length).2.2 ks).1, (grantR H L k L.length).1 ++ (leaveRF (grantR H L k L.length).2.1 (grantR H L k L.length).2.2 ks).2)
def stayH (all : Bool) (owners : List Int) (H : List Plc) : List Plc := if all = true then H.filter (fun p => !goneS owners p) else H
def stayL (owners : List Int) (L : List Plc) : List Plc := L.filter (fun p => !goneS owners p)
def leaveR (all : Bool) (owners : List Int) (H L : List Plc) : (List Plc × List Plc) × List Int := leaveRF (stayH all owners H) (stayL owners L) (keysR (stayL owners L))
def holdsR (H : List Plc) (o : Int) : List Plc := (keysR H).filterMap fun k => H.find? (fun p => ownIs o p && keyIs k p)
def ofR (L : List Plc) (k : Bs) : List Int := (L.filter (keyIs k)).map (·.own)
def edR (H pre : List Plc) (k : Bs) : List Plc → List (Int × Int)
  | [] => []
  | c :: t => (if keyIs k c = true then (H.filter fun h => keyIs c.key h && clashS c h).map (fun q => (c.own, q.own)) ++ (pre.filter fun h => keyIs c.key h && clashS c h).map (fun q => (c.own, q.own)) else []) ++ edR H (pre ++ [c]) k t
def edgesR (H L : List Plc) : List (Int × Int) := (keysR L).flatMap fun k => edR H [] k L
end Go.Q
namespace Go.Q
structure TabS where
  keys : Tab
theorem names_mem {t : Tab} {k : Bs} : k ∈ namesS t ↔ k ∈ t.map (·.1) := by unfold namesS; exact (List.mergeSort_perm _ _).mem_iff
theorem names_get {t : Tab} {i : Nat} {k : Bs} (h : (namesS t)[i]? = some k) (hn : getB t k = none) : False := by
  have := names_mem.1 (List.mem_of_getElem? h)
  rw [← getB_mem, hn] at this; cases this
theorem names_len (t : Tab) : (namesS t).length = t.length := by unfold namesS; rw [List.length_mergeSort, List.length_map]
theorem ent_some {t : Tab} {k : Bs} {e : Ent} (h : getB t k = some e) : entOf t k = e := by rw [entOf, h]; rfl
theorem ent_none {t : Tab} {k : Bs} (h : getB t k = none) : entOf t k = ⟨[], []⟩ := by rw [entOf, h]; rfl
theorem at_neg {l : List Plc} {o : Int} (h : ¬ 0 ≤ atS l o) : l.find? (ownIs o) = none := by
  unfold atS at h
  cases e : l.findIdx? (fun p => decide (p.own = o)) with
  | none => rw [List.find?_eq_none]; intro x hx; have := List.findIdx?_eq_none_iff.1 e x hx; simpa [ownIs] using this
  | some i => rw [e] at h; simp only at h; omega
theorem at_pos {l : List Plc} {o : Int} {x : Plc} (h : 0 ≤ atS l o) (hx : l[(atS l o).toNat]? = some x) : l.find? (ownIs o) = some x := by
  unfold atS at h hx
  cases e : l.findIdx? (fun p => decide (p.own = o)) with
  | none => rw [e] at h; simp only at h; omega
  | some i =>
    rw [e] at hx
    obtain ⟨hlt, hc, hn⟩ := List.findIdx?_eq_some_iff_getElem.1 e
    simp only [Int.toNat_natCast] at hx
    have hxe : l[i] = x := (List.getElem?_eq_some_iff.1 hx).2
    rw [List.find?_eq_some_iff_getElem]
    exact ⟨by rw [← hxe]; exact hc, i, hlt, hxe, fun j hj => by have := hn j hj; simpa [ownIs] using this⟩
theorem waits_none {t : Tab} {o : Int} (h : ∀ (j : Nat) (y : Bs), (namesS t)[j]? = some y → (entOf t y).line.find? (ownIs o) = none) : waitsS t o = none := by
  unfold waitsS
  rw [List.findSome?_eq_none_iff]
  intro x hx
  obtain ⟨j, hj⟩ := List.getElem?_of_mem hx
  exact h j x hj
theorem waits_some {t : Tab} {o : Int} {k : Nat} {y : Bs} {p : Plc} (h : ∀ j, j < k → ∀ y, (namesS t)[j]? = some y → (entOf t y).line.find? (ownIs o) = none) (hy : (namesS t)[k]? = some y) (hp : (entOf t y).line.find? (ownIs o) = some p) : waitsS t o = some p := by
  unfold waitsS
  obtain ⟨hlt, hk⟩ := List.getElem?_eq_some_iff.1 hy
  have e : namesS t = (namesS t).take k ++ y :: (namesS t).drop (k + 1) := by
    rw [← hk, ← List.drop_eq_getElem_cons hlt, List.take_append_drop]
  rw [e, List.findSome?_append, List.findSome?_eq_none_iff.2, Option.none_or, List.findSome?_cons, hp]
  intro x hx
  obtain ⟨j, hj, hje⟩ := List.mem_take_iff_getElem.1 hx
  exact h j (by omega) x (by rw [← hje]; exact List.getElem?_eq_getElem _)
end Go.Q
namespace Go.Q
theorem putB_putB {κ β : Type} [DecidableEq κ] (k : κ) (u v : β) : ∀ l : List (κ × β), putB (putB l k u) k v = putB l k v
  | [] => by simp [putB]
  | (a, x) :: t => by
    rw [putB]
    split
    · rename_i h; subst h; simp [putB]
    · rename_i h; rw [putB, if_neg h, putB_putB k u v t, putB, if_neg h]
theorem mem_putB {κ β : Type} [DecidableEq κ] {k : κ} {v : β} {p : κ × β} : ∀ {l : List (κ × β)}, p ∈ putB l k v → p ∈ l ∨ p = (k, v)
  | [], h => by simp [putB] at h; exact .inr h
  | (a, x) :: t, h => by
    rw [putB] at h
    split at h
    · rcases List.mem_cons.1 h with e | e
      · exact .inr e
      · exact .inl (List.mem_cons_of_mem _ e)
    · rcases List.mem_cons.1 h with e | e
      · exact .inl (by rw [e]; exact List.mem_cons_self ..)
      · exact (mem_putB e).imp (List.mem_cons_of_mem _) id
theorem mem_delB {κ β : Type} [DecidableEq κ] {k : κ} {p : κ × β} {l : List (κ × β)} (h : p ∈ delB l k) : p ∈ l := (delB_sub k l).subset h
theorem getB_memp {κ β : Type} [DecidableEq κ] {k : κ} {v : β} : ∀ {l : List (κ × β)}, getB l k = some v → (k, v) ∈ l
  | [], h => by simp [getB] at h
  | (a, x) :: t, h => by
    rw [getB] at h
    split at h
    · rename_i e; cases h; rw [e]; exact List.mem_cons_self ..
    · exact List.mem_cons_of_mem _ (getB_memp h)
theorem putB_len {κ β : Type} [DecidableEq κ] (k : κ) (v : β) : ∀ l : List (κ × β), (putB l k v).length ≤ l.length + 1 ∧ l.length ≤ (putB l k v).length
  | [] => by simp [putB]
  | (a, x) :: t => by
    rw [putB]; split
    · simp
    · have := putB_len k v t; simp only [List.length_cons]; omega
theorem putB_same {κ β : Type} [DecidableEq κ] {k : κ} {v u : β} : ∀ {l : List (κ × β)}, getB l k = some u → (putB l k v).length = l.length
  | [], h => by simp [getB] at h
  | (a, x) :: t, h => by
    rw [getB] at h
    rw [putB]; split
    · simp
    · rename_i e; rw [if_neg e] at h; simp [putB_same h]
theorem leave_go {all : Bool} {owners : List Int} {t2 t' : Tab} {x : Bs} {ve e' : Ent} {r : List Bs} {os : List Int} (hS : getB t2 x = some ve) (he : e' = ⟨(leftE all owners ve).2.1, (leftE all owners ve).2.2⟩) (ho : os = (leftE all owners ve).1)
    (ht : t' = if e'.hold = [] then delB (putB t2 x e') x else putB t2 x e') : leaveF all owners t2 (x :: r) = ((leaveF all owners t' r).1, os ++ (leaveF all owners t' r).2) := by
  rw [leaveF, ent_some hS, ← ho, ← he]
  show ((leaveF all owners (setE t2 x e') r).1, os ++ (leaveF all owners (setE t2 x e') r).2) = _
  rw [ht]; rfl
theorem leave_keep {t2 t' : Tab} {x y : Bs} {e' : Ent} {b : Prop} [Decidable b] (hne : y ≠ x) (h : (getB t2 y).isSome = true) (hn : (t2.map (·.1)).Nodup) (ht : t' = if b then delB (putB t2 x e') x else putB t2 x e') : (getB t' y).isSome = true := by
  rw [ht]
  have h1 : (getB (putB t2 x e') y).isSome = true := by rw [getB_put, if_neg hne]; exact h
  split
  · rw [getB_del]
    · rw [if_neg hne]; exact h1
    · rw [putB_keys]
      split
      · exact hn
      · rename_i g; rw [List.nodup_append]; exact ⟨hn, by simp, fun a ha b' hb e => g (by rw [List.mem_singleton] at hb; rw [← hb, ← e]; exact ha)⟩
  · exact h1
theorem names_nodup {t : Tab} (h : (t.map (·.1)).Nodup) : (namesS t).Nodup := by unfold namesS; exact (List.mergeSort_perm _ _).nodup_iff.2 h
theorem nodup_ne {α : Type} {l : List α} (h : l.Nodup) {i j : Nat} {x y : α} (hi : l[i]? = some x) (hj : l[j]? = some y) (hne : i ≠ j) : x ≠ y := by
  intro e
  obtain ⟨h1, h2⟩ := List.getElem?_eq_some_iff.1 hi
  obtain ⟨h3, h4⟩ := List.getElem?_eq_some_iff.1 hj
  exact hne ((List.getElem_inj h).1 (h2.trans (e.trans h4.symm)))
def szT (t : Tab) : Prop := ∀ p ∈ t, p.2.hold.length + p.2.line.length ≤ 1000
theorem szT.get {t : Tab} (h : szT t) {k : Bs} {e : Ent} (hg : getB t k = some e) : e.hold.length + e.line.length ≤ 1000 := h _ (getB_memp hg)
theorem szT.put {t : Tab} (h : szT t) {k : Bs} {e : Ent} (he : e.hold.length + e.line.length ≤ 1000) : szT (putB t k e) := fun p hp => (mem_putB hp).elim (h p) (fun g => by rw [g]; exact he)
theorem szT.del {t : Tab} (h : szT t) {k : Bs} : szT (delB t k) := fun p hp => h p (mem_delB hp)
theorem leftE_len (all : Bool) (owners : List Int) (e : Ent) : (leftE all owners e).2.1.length + (leftE all owners e).2.2.length ≤ e.hold.length + e.line.length ∧ (leftE all owners e).1.length ≤ e.line.length := by
  unfold leftE
  have h1 := grant_len (e.line.filter (fun p => !goneS owners p)) (if all = true then e.hold.filter (fun p => !goneS owners p) else e.hold)
  have h2 := grant_out (e.line.filter (fun p => !goneS owners p)) (if all = true then e.hold.filter (fun p => !goneS owners p) else e.hold)
  have h3 := List.length_filter_le (fun p => !goneS owners p) e.line
  have h4 : (if all = true then e.hold.filter (fun p => !goneS owners p) else e.hold).length ≤ e.hold.length := by split; exact List.length_filter_le _ _; exact Nat.le_refl _
  omega
end Go.Q
namespace Go.Q
def clC (p : Bs × Bool) : List Value := [S p.1, .bool p.2]
theorem clC_len (a : Bs × Bool) : (clC a).length = 2 := rfl
theorem one_clC (l : List (Bs × Bool)) : ∀ u ∈ l.flatMap clC, u.oneCell' = true := one_flat (fun p u hu => by
  simp only [clC, List.mem_cons, List.not_mem_nil, or_false] at hu
  rcases hu with rfl | rfl <;> rfl) l
def holdC (t : Tab) (o : Int) (k : Bs) : Option (Bs × Bool) := ((entOf t k).hold.find? (ownIs o)).map fun p => (p.key, p.wr)
def holdsC (t : Tab) (o : Int) : List (Bs × Bool) := (namesS t).filterMap (holdC t o)
theorem holdC_no {t : Tab} {o : Int} {k : Bs} {e : Ent} (hg : getB t k = some e) (h : ¬ 0 ≤ atS e.hold o) : holdC t o k = none := by rw [holdC, ent_some hg, at_neg h]; rfl
theorem holdC_yes {t : Tab} {o : Int} {k : Bs} {e : Ent} {p : Plc} (hg : getB t k = some e) (h : 0 ≤ atS e.hold o) (hp : e.hold[(atS e.hold o).toNat]? = some p) : holdC t o k = some (p.key, p.wr) := by rw [holdC, ent_some hg, at_pos h hp]; rfl
end Go.Q
namespace Go.Q
theorem ask_state {t : Tab} {o : Int} {k : Bs} {wr : Bool} {e' : Ent} {c : Int} (h0 : ¬ o < 0) (h1 : (waitsS t o).isSome = false) (ha : askE (entOf t k) ⟨k, wr, o⟩ = (e', c)) : askS t o k wr = (putB t k e', c) := by
  rw [askS, if_neg h0, if_neg (by rw [h1]; decide), ha]
theorem at_nil (o : Int) : atS [] o = -1 := rfl
end Go.Q
namespace Go.Q
theorem edS_snoc (hold : List Plc) (x : Plc) : ∀ (l pre : List Plc), edS hold pre (l ++ [x]) = edS hold pre l ++ ((hold ++ (pre ++ l)).filter (clashS x)).map (fun q => (x.own, q.own))
  | [], pre => by simp [edS]
  | p :: l, pre => by rw [List.cons_append, edS, edS, edS_snoc hold x l (pre ++ [p])]; simp [List.append_assoc]
theorem edS_len (hold : List Plc) : ∀ (l pre : List Plc), (edS hold pre l).length ≤ l.length * (hold.length + pre.length + l.length)
  | [], pre => by simp [edS]
  | p :: l, pre => by
    have h1 := edS_len hold l (pre ++ [p])
    have h2 := List.length_filter_le (clashS p) (hold ++ pre)
    rw [edS, List.length_append, List.length_map, List.length_cons]
    rw [List.length_append] at h2
    simp only [List.length_append, List.length_singleton] at h1
    have h3 : l.length * (hold.length + (pre.length + 1) + l.length) = l.length * (hold.length + pre.length + (l.length + 1)) := by congr 1; omega
    rw [Nat.succ_mul]; omega
def edgK (t : Tab) (k : Bs) : List (Int × Int) := edS (entOf t k).hold [] (entOf t k).line
theorem edgK_len {t : Tab} {k : Bs} {e : Ent} (h : szT t) (hg : getB t k = some e) (i : Nat) : (edS e.hold [] (e.line.take i)).length ≤ 1000000 := by
  have h1 := edS_len e.hold (e.line.take i) []
  have h2 := h.get hg
  have h3 : (e.line.take i).length ≤ e.line.length := by rw [List.length_take]; omega
  refine Nat.le_trans h1 (Nat.le_trans (Nat.mul_le_mul (show _ ≤ 1000 by omega) (show _ ≤ 1000 by simp only [List.length_nil]; omega)) (by decide))
theorem edges_eq (t : Tab) : edgesS t = (namesS t).flatMap (edgK t) := rfl
theorem edges_step {t : Tab} {k : Nat} {y : Bs} {e : Ent} (hy : (namesS t)[k]? = some y) (hg : getB t y = some e) : ((namesS t).take (k + 1)).flatMap (edgK t) = ((namesS t).take k).flatMap (edgK t) ++ edS e.hold [] e.line := by
  rw [take_succ_of hy, List.flatMap_append]; simp [edgK, ent_some hg]
theorem edS_step {hold l : List Plc} {i : Nat} {p : Plc} (hp : l[i]? = some p) : edS hold [] (l.take (i + 1)) = edS hold [] (l.take i) ++ ((hold ++ l.take i).filter (clashS p)).map (fun q => (p.own, q.own)) := by
  rw [take_succ_of hp, edS_snoc]; simp
theorem fil_step {α β : Type} {c : List α} {f : α → Bool} {g : α → β} {j : Nat} {q : α} (hq : c[j]? = some q) (hf : f q = true) : ((c.take (j + 1)).filter f).map g = ((c.take j).filter f).map g ++ [g q] := by
  rw [take_succ_of hq, List.filter_append, List.map_append]; simp [hf]
theorem fil_skip {α β : Type} {c : List α} {f : α → Bool} {g : α → β} {j : Nat} {q : α} (hq : c[j]? = some q) (hf : f q = false) : ((c.take (j + 1)).filter f).map g = ((c.take j).filter f).map g := by
  rw [take_succ_of hq, List.filter_append, List.map_append]; simp [hf]
theorem fil_len {α β : Type} (c : List α) (f : α → Bool) (g : α → β) (j : Nat) : (((c.take j).filter f).map g).length ≤ c.length := by
  rw [List.length_map]
  exact Nat.le_trans (List.length_filter_le _ _) (by rw [List.length_take]; omega)
end Go.Q
namespace Go.Q
/-- what the operations have yielded -/
def vsOf (ops : List Oper) (r : Nat → Value) : Nat → Value := fun j => match ops[j]? with | some o => slot r o | none => undef
/-- what those ahead of i have yielded -/
def msk (ops : List Oper) (i : Nat) (vs : Nat → Value) : Nat → Value := fun j => if anc ops ops.length i j = true then vs j else undef
theorem msk_upd {ops : List Oper} {i j d : Nat} {o : Oper} {r : Nat → Value} {v : Value} (hok : flowOk ops = true) (ho : ops[i]? = some o) (hd : o.dst = some d) (h : ∀ k, anc ops ops.length j k = true → k ≠ i) :
    msk ops j (vsOf ops (upd r d v)) = msk ops j (vsOf ops r) := by
  funext k
  unfold msk
  split
  · rename_i hk
    unfold vsOf
    cases hok' : ops[k]? with
    | none => rfl
    | some ok =>
      have hne : ok.dst ≠ some d := (flowOk_spec hok ho).2.2 k ok d hok' (h k hk) hd
      show slot (upd r d v) ok = slot r ok
      unfold slot
      cases hdk : ok.dst with
      | none => rfl
      | some t => exact upd_ne _ _ (fun e => hne (hdk.trans (congrArg some e)))
  · rfl
/-- What an operation of the region is handed when its turn comes. -/
structure Turn2 (E : World) (ops : List Oper) (F : List (List Hp)) (C : Nat → List Hp) (Tp : Nat → Value → List Hp → (Nat → Value) → Prop) (N : Nat) (r : Nat → Value) (i : Nat) (r' : Nat → Value) (w : World) (G : List (List Hp)) (hs : Nat → List Hp) : Prop where
  has : Has E w (C i :: G)
  fr : ∀ s ∈ F, s ⊆ G.flatten
  done : ∀ j o, ops[j]? = some o → anc ops ops.length i j = true → Tp j (slot r' o) (hs j) (msk ops j (vsOf ops r')) ∧ hs j ⊆ G.flatten
  todo : ∀ j, anc ops ops.length j i = true → C j ⊆ G.flatten
  old : ∀ t, (∀ j o, ops[j]? = some o → o.dst = some t → j = i ∨ anc ops ops.length j i = true) → r' t = r t
  each : ∀ j o, ops[j]? = some o → j ≠ i → C j ⊆ G.flatten ∨ (∃ v m, Tp j v (hs j) m) ∧ hs j ⊆ G.flatten

theorem c_flow2 {P : Program} {Q : Exit → Act → World → Prop} {E w : World} {N : Nat} {r : Nat → Value} {id : Nat} {ops : List Oper} (F : List (List Hp)) (C : Nat → List Hp) (Tp : Nat → Value → List Hp → (Nat → Value) → Prop)
    (hm : P.follows .mixedOrders = true) (hok : flowOk ops = true) (H : Has E w (F ++ (List.range ops.length).map C))
    (step : ∀ i o, ops[i]? = some o → ∀ r' w' G hs, Turn2 E ops F C Tp N r i r' w' G hs → OK P o (ev N r') w' fun v w'' => ∃ h', Tp i (match o.dst with | some _ => v | none => undef) h' (msk ops i (vsOf ops r')) ∧ Has E w'' (h' :: G))
    (fin : ∀ (vs : Nat → Value) (hs : Nat → List Hp) w', (∀ i o, ops[i]? = some o → Tp i (vs i) (hs i) (msk ops i vs)) → Has E w' (F ++ (List.range ops.length).map hs) → Q .normal (Go.Q.fr N (puts vs ops 0 r)) w') :
    (Code.region id ops.toArray true).wp P Q (Go.Q.fr N r) w := by
  refine wp_region_any hm ?_
  -- the state while some are done
  let Inv : Array Bool → Act → World → Prop := fun listed a w => listed.size = ops.length ∧ (∀ i, listed.getD i false = true → ∀ d ∈ depsOf ops i, listed.getD d false = true) ∧
    ∃ r' hs, a = Go.Q.fr N r' ∧ Has E w (F ++ (List.range ops.length).map hs) ∧ (∀ i o, ops[i]? = some o → if listed.getD i false = true then o.dst.isSome = true ∧ Tp i (slot r' o) (hs i) (msk ops i (vsOf ops r')) ∨ o.dst = none ∧ Tp i undef (hs i) (msk ops i (vsOf ops r')) else hs i = C i) ∧
    (∀ t, (∀ i o, ops[i]? = some o → o.dst = some t → listed.getD i false = false) → r' t = r t)
  have key : ∀ fuel listed a w, Inv listed a w → (List.range ops.length).countP (fun i => !listed.getD i false) ≤ fuel → wpAny P .any ops.toArray Q fuel listed a w := by
    have ready0 : ∀ listed : Array Bool, listed.size = ops.length → Region.ready .any ops.toArray listed = [] → ∀ i, i < ops.length → listed.getD i false = true := by
      intro listed hsz hr i
      induction i using Nat.strongRecOn with
      | _ i ih =>
        intro hi
        cases hl : listed.getD i false with
        | true => rfl
        | false =>
          exfalso
          obtain ⟨o, ho⟩ : ∃ o, ops[i]? = some o := ⟨_, List.getElem?_eq_getElem hi⟩
          have : i ∈ Region.ready .any ops.toArray listed := by
            refine mem_ready.2 ⟨?_, o, by simpa using ho, fun e he hb => ?_⟩
            · have : i < listed.size := by omega
              simp [this] at hl ⊢; exact hl
            · have hd := mem_depsOf ho he hb
              have hlt := (flowOk_spec hok ho).2.1 _ hd
              exact ih _ hlt (by omega)
          rw [hr] at this; cases this
    have fin' : ∀ listed a w, Inv listed a w → Region.ready .any ops.toArray listed = [] → Q .normal a w := by
      rintro listed a w ⟨hsz, _, r', hs, rfl, hH, hT, hold⟩ hr
      have hall := ready0 listed hsz hr
      let vs : Nat → Value := vsOf ops r'
      have e : Go.Q.fr N r' = Go.Q.fr N (puts vs ops 0 r) := by
        refine fr_congr fun t _ => ?_
        by_cases hex : ∃ (i : Nat) (o : Oper), ops[i]? = some o ∧ o.dst = some t
        · obtain ⟨i, o, ho, hd⟩ := hex
          rw [puts_new vs ops 0 i r o t ho hd (fun j o' hj hne => (flowOk_spec hok ho).2.2 j o' t hj hne hd)]
          simp [vs, vsOf, ho, slot, hd]
        · rw [puts_old vs ops 0 r t (fun o ho hd => by obtain ⟨j, hj⟩ := List.getElem?_of_mem ho; exact hex ⟨j, o, hj, hd⟩)]
          exact hold t (fun i o ho hd => absurd ⟨i, o, ho, hd⟩ hex)
      rw [e]
      refine fin vs hs w (fun i o ho => ?_) hH
      have := hT i o ho
      rw [if_pos (hall i (List.getElem?_eq_some_iff.1 ho).1)] at this
      have hvs : vs i = slot r' o := by simp only [vs, vsOf, ho]
      rw [hvs]
      rcases this with ⟨_, h⟩ | ⟨hn, h⟩
      · exact h
      · unfold slot; rw [hn]; exact h
    intro fuel
    induction fuel with
    | zero =>
      intro listed a w hI hc
      have hr : Region.ready .any ops.toArray listed = [] := by
        rw [List.eq_nil_iff_forall_not_mem]
        intro i hi
        obtain ⟨h0, o, ho, _⟩ := mem_ready.1 hi
        have hlt : i < ops.length := by simpa using (Array.getElem?_eq_some_iff.1 ho).1
        have : listed.getD i false = false := by
          have hs : i < listed.size := by rw [hI.1]; exact hlt
          simp [hs] at h0 ⊢; exact h0
        have hp : 0 < (List.range ops.length).countP (fun i => !listed.getD i false) := List.countP_pos_iff.2 ⟨i, List.mem_range.2 hlt, by rw [this]; rfl⟩
        omega
      exact ⟨hr, fin' listed a w hI hr⟩
    | succ fuel ih =>
      intro listed a w hI hc
      refine ⟨fin' listed a w hI, fun i hi => ?_⟩
      obtain ⟨hsz, hcl, r', hs, rfl, hH, hT, hold⟩ := hI
      obtain ⟨h0, o, ho', hdone⟩ := mem_ready.1 hi
      have ho : ops[i]? = some o := by simpa using ho'
      have hlt : i < ops.length := (List.getElem?_eq_some_iff.1 ho).1
      have hli : listed.getD i false = false := by
        have hs : i < listed.size := by omega
        simp [hs] at h0 ⊢; exact h0
      obtain ⟨hg, hdlt, hdist⟩ := flowOk_spec hok ho
      have hdeps : ∀ d ∈ depsOf ops i, listed.getD d false = true := by
        intro d hd
        unfold depsOf at hd
        rw [ho] at hd
        obtain ⟨e, he, heq⟩ := List.mem_filterMap.1 hd
        split at heq
        · cases heq; exact hdone e (by simpa using he) (by assumption)
        · cases heq
      -- the heaplets: the one at i in front
      let G : List (List Hp) := F ++ ((List.range i).map hs ++ (List.range' (i + 1) (ops.length - (i + 1))).map hs)
      have hsplit : List.range ops.length = List.range i ++ i :: List.range' (i + 1) (ops.length - (i + 1)) := by
        rw [List.range_eq_range', List.range_eq_range', show i :: List.range' (i + 1) (ops.length - (i + 1)) = List.range' i (ops.length - i) from by
          rw [show ops.length - i = (ops.length - (i + 1)) + 1 by omega, List.range'_succ]]
        have := List.range'_append_1 (s := 0) (m := i) (n := ops.length - i)
        rw [Nat.zero_add] at this
        rw [this]; congr 1; omega
      have mapsplit : ∀ f : Nat → List Hp, (List.range ops.length).map f = (List.range i).map f ++ f i :: (List.range' (i + 1) (ops.length - (i + 1))).map f := by
        intro f; rw [hsplit]; simp
      have hperm : ∀ f : Nat → List Hp, (F ++ (List.range ops.length).map f).Perm (f i :: (F ++ ((List.range i).map f ++ (List.range' (i + 1) (ops.length - (i + 1))).map f))) := by
        intro f
        rw [mapsplit f, ← List.append_assoc, ← List.append_assoc]
        exact List.perm_middle
      have hhi : hs i = C i := by have := hT i o ho; rw [if_neg (by rw [hli]; simp)] at this; exact this
      have inG : ∀ j, j < ops.length → j ≠ i → hs j ∈ G := by
        intro j hj hne
        refine List.mem_append_right _ ?_
        rcases Nat.lt_or_gt_of_ne hne with h | h
        · exact List.mem_append_left _ (List.mem_map.2 ⟨j, List.mem_range.2 h, rfl⟩)
        · exact List.mem_append_right _ (List.mem_map.2 ⟨j, by rw [List.mem_range'_1]; omega, rfl⟩)
      have subG : ∀ s ∈ G, s ⊆ G.flatten := fun s hs' x hx => List.mem_flatten.2 ⟨s, hs', hx⟩
      have ancNe : ∀ j, listed.getD j false = true → j ≠ i := fun j hj e => by rw [e, hli] at hj; cases hj
      have turn : Turn2 E ops F C Tp N r i r' w G hs := by
        refine ⟨?_, fun s hs' => subG s (List.mem_append_left _ hs'), fun j oj hoj hanc => ?_, fun j hanc => ?_, fun t ht => ?_, fun j oj hoj hne => ?_⟩
        · rw [← hhi]; exact hH.perm (hperm hs).symm
        · have hl := anc_trans hok hcl _ i j hanc hdeps
          refine ⟨?_, subG _ (inG j (List.getElem?_eq_some_iff.1 hoj).1 (ancNe j hl))⟩
          have := hT j oj hoj
          rw [if_pos hl] at this
          rcases this with ⟨_, h⟩ | ⟨hn, h⟩
          · exact h
          · unfold slot; rw [hn]; exact h
        · cases hj : ops[j]? with
          | none =>
            exfalso
            unfold anc at hanc
            split at hanc
            · cases hanc
            · simp [depsOf, hj] at hanc
          | some oj =>
            have hnl : listed.getD j false = false := by
              cases hl : listed.getD j false with
              | false => rfl
              | true =>
                have := anc_trans hok hcl _ j i hanc (hcl j hl)
                rw [hli] at this; cases this
            have hjl := (List.getElem?_eq_some_iff.1 hj).1
            have hne : j ≠ i := by
              rintro rfl
              have := anc_trans hok hcl _ j j hanc hdeps
              rw [hli] at this; cases this
            have := hT j oj hj
            rw [if_neg (by rw [hnl]; simp)] at this
            rw [← this]; exact subG _ (inG j hjl hne)
        · refine hold t (fun j oj hoj hd => ?_)
          rcases ht j oj hoj hd with rfl | hanc
          · exact hli
          · cases hl : listed.getD j false with
            | false => rfl
            | true =>
              have := anc_trans hok hcl _ j i hanc (hcl j hl)
              rw [hli] at this; cases this
        · have hG := subG _ (inG j (List.getElem?_eq_some_iff.1 hoj).1 hne)
          have := hT j oj hoj
          cases hl : listed.getD j false with
          | true =>
            rw [if_pos hl] at this
            rcases this with ⟨_, h⟩ | ⟨_, h⟩
            · exact .inr ⟨⟨_, _, h⟩, hG⟩
            · exact .inr ⟨⟨_, _, h⟩, hG⟩
          | false =>
            rw [if_neg (by rw [hl]; simp)] at this
            rw [← this]; exact .inl hG
      have hstep := step i o ho r' w G hs turn
      unfold wpOp
      simp only [show ops.toArray[i]? = some o from ho']
      rw [if_pos (by simp [Region.wanted, hg])]
      refine .inl (OK.wp ?_)
      rw [fr_eval]
      refine hstep.mono fun v w'' ⟨h', hTi, hH'⟩ => ?_
      refine ih _ _ _ ⟨by simpa using hsz, ?_, ?_⟩ ?_
      · intro j hj d hd
        by_cases hji : i = j
        · subst hji; exact getD_set_true (hdeps d hd)
        · rw [getD_set_ne false hji] at hj
          exact getD_set_true (hcl j hj d hd)
      · let hs' : Nat → List Hp := fun j => if j = i then h' else hs j
        have hsG : F ++ ((List.range i).map hs' ++ (List.range' (i + 1) (ops.length - (i + 1))).map hs') = G := by
          have e1 : (List.range i).map hs' = (List.range i).map hs := List.map_congr_left fun j hj => by
            have := List.mem_range.1 hj; simp only [hs']; rw [if_neg (by omega)]
          have e2 : (List.range' (i + 1) (ops.length - (i + 1))).map hs' = (List.range' (i + 1) (ops.length - (i + 1))).map hs := List.map_congr_left fun j hj => by
            have := List.mem_range'_1.1 hj; simp only [hs']; rw [if_neg (by omega)]
          rw [e1, e2]
        have hH2 : Has E w'' (F ++ (List.range ops.length).map hs') := by
          refine hH'.perm ((hperm hs').trans ?_)
          rw [hsG]
          simp [hs']
        have hset : ∀ j, j ≠ i → (listed.setIfInBounds i true).getD j false = listed.getD j false := fun j hj => getD_set_ne false (Ne.symm hj)
        have hseti : (listed.setIfInBounds i true).getD i false = true := by
          have : i < listed.size := by omega
          simp [this]
        cases hd : o.dst with
        | none =>
          refine ⟨r', hs', by rw [fr_put_none], hH2, fun j oj hoj => ?_, fun t ht => hold t fun j oj hoj hdj => ?_⟩
          · by_cases hji : j = i
            · subst hji
              rw [ho] at hoj; cases hoj
              rw [if_pos hseti]
              rw [hd] at hTi
              exact .inr ⟨hd, by simpa [hs'] using hTi⟩
            · rw [hset j hji]
              have := hT j oj hoj
              simpa [hs', hji] using this
          · by_cases hji : j = i
            · subst hji; exact hli
            · have := ht j oj hoj hdj; rwa [hset j hji] at this
        | some d =>
          refine ⟨upd r' d v, hs', by rw [fr_put], hH2, fun j oj hoj => ?_, fun t ht => ?_⟩
          · by_cases hji : j = i
            · subst hji
              rw [ho] at hoj; cases hoj
              rw [if_pos hseti]
              refine .inl ⟨by rw [hd]; rfl, ?_⟩
              rw [hd] at hTi
              rw [msk_upd hok ho hd (fun k hk => ancNe k (anc_trans hok hcl _ j k hk hdeps))]
              simp only [slot, hd, upd_same, hs', if_true]; exact hTi
            · rw [hset j hji]
              have := hT j oj hoj
              have hne : oj.dst ≠ some d := hdist j oj d hoj hji hd
              have hsl : slot (upd r' d v) oj = slot r' oj := by
                unfold slot
                cases hdj : oj.dst with
                | none => rfl
                | some t => exact upd_ne _ _ (fun e => hne (by rw [hdj, e]))
              cases hlj : listed.getD j false with
              | true =>
                rw [msk_upd hok ho hd (fun k hk => ancNe k (anc_trans hok hcl _ j k hk (hcl j hlj)))]
                simpa [hs', hji, hsl, hlj] using this
              | false => simpa [hs', hji, hlj] using this
          · have hne : t ≠ d := by
              rintro rfl
              have := ht i o ho hd
              rw [hseti] at this; cases this
            rw [upd_ne _ _ hne]
            refine hold t fun j oj hoj hdj => ?_
            by_cases hji : j = i
            · subst hji; exact hli
            · have := ht j oj hoj hdj; rwa [hset j hji] at this
      · have : (List.range ops.length).countP (fun j => !(listed.setIfInBounds i true).getD j false) < (List.range ops.length).countP (fun j => !listed.getD j false) := by
          have hset : ∀ j, j ≠ i → (listed.setIfInBounds i true).getD j false = listed.getD j false := fun j hj => getD_set_ne false (Ne.symm hj)
          have hseti : (listed.setIfInBounds i true).getD i false = true := by
            have : i < listed.size := by omega
            simp [this]
          rw [hsplit, List.countP_append, List.countP_cons, List.countP_append, List.countP_cons, hseti, hli]
          have e1 : (List.range i).countP (fun j => !(listed.setIfInBounds i true).getD j false) = (List.range i).countP (fun j => !listed.getD j false) :=
            List.countP_congr fun j hj => by have := List.mem_range.1 hj; rw [hset j (by omega)]
          have e2 : (List.range' (i + 1) (ops.length - (i + 1))).countP (fun j => !(listed.setIfInBounds i true).getD j false) = (List.range' (i + 1) (ops.length - (i + 1))).countP (fun j => !listed.getD j false) :=
            List.countP_congr fun j hj => by have := List.mem_range'_1.1 hj; rw [hset j (by omega)]
          rw [e1, e2]; simp
        omega
  have h0 : Inv (Array.replicate ops.toArray.size false) (Go.Q.fr N r) { w with drawn := w.drawn + 1 } := by
    have hf : ∀ i, (Array.replicate ops.toArray.size false).getD i false = false := by
      intro i; by_cases h : i < ops.length <;> simp [h]
    refine ⟨by simp, fun i hi => ?_, r, C, rfl, H.drew _, fun i o _ => ?_, fun _ _ => rfl⟩
    · rw [hf] at hi; cases hi
    · rw [if_neg (by rw [hf]; simp)]
  refine key _ _ _ _ h0 ?_
  refine Nat.le_trans List.countP_le_length (by simp)

theorem Turn2.was {E : World} {ops : List Oper} {F : List (List Hp)} {C : Nat → List Hp} {Tp : Nat → Value → List Hp → (Nat → Value) → Prop} {N : Nat} {r : Nat → Value} {i : Nat} {r' : Nat → Value} {w : World} {G : List (List Hp)} {hs : Nat → List Hp}
    (H : Turn2 E ops F C Tp N r i r' w G hs) (t : Nat) (h : oldB ops i t = true) : r' t = r t := by
  refine H.old t fun j o ho hd => ?_
  unfold oldB at h
  rw [List.all_eq_true] at h
  have := h j (List.mem_range.2 (List.getElem?_eq_some_iff.1 ho).1)
  simp only [ho, Bool.or_eq_true, bne_iff_ne, beq_iff_eq] at this
  rcases this with (h | h) | h
  · exact absurd hd h
  · exact .inl h
  · exact .inr h
end Go.Q
namespace Go.Q
/-- Is a region of that make: each slot written once, all edges lead back? -/
def flowOk3 (ops : List Oper) : Bool :=
  ((List.range ops.length).all fun i => match ops[i]? with
    | some o => (depsOf ops i).all (fun d => decide (d < i)) && (List.range ops.length).all fun j => j == i || match ops[j]? with
      | some o' => o.dst.isNone || o'.dst != o.dst
      | none => true
    | none => true)
theorem flowOk3_spec {ops : List Oper} (h : flowOk3 ops = true) {i : Nat} {o : Oper} (ho : ops[i]? = some o) :
    (∀ d ∈ depsOf ops i, d < i) ∧ ∀ j o' t, ops[j]? = some o' → j ≠ i → o.dst = some t → o'.dst ≠ some t := by
  unfold flowOk3 at h
  rw [List.all_eq_true] at h
  have hi : i < ops.length := (List.getElem?_eq_some_iff.1 ho).1
  have h1 := h i (List.mem_range.2 hi)
  simp only [ho, Bool.and_eq_true, List.all_eq_true, decide_eq_true_eq] at h1
  obtain ⟨hd, hj⟩ := h1
  refine ⟨hd, fun j o' t hj' hne ht => ?_⟩
  have := hj j (List.mem_range.2 (List.getElem?_eq_some_iff.1 hj').1)
  simp only [hj', ht, Option.isNone_some, Bool.false_or, Bool.or_eq_true, beq_iff_eq, bne_iff_ne] at this
  rcases this with h | h
  · exact absurd h hne
  · exact h

theorem anc_trans3 {ops : List Oper} (_h : flowOk3 ops = true) {listed : Array Bool} (hc : ∀ i, listed.getD i false = true → ∀ d ∈ depsOf ops i, listed.getD d false = true) :
    ∀ f i j, anc ops f i j = true → (∀ d ∈ depsOf ops i, listed.getD d false = true) → listed.getD j false = true := by
  intro f
  induction f with
  | zero => intro i j h; simp [anc] at h
  | succ f ih =>
    intro i j h hd
    rw [anc, List.any_eq_true] at h
    obtain ⟨d, hdm, hh⟩ := h
    rw [Bool.or_eq_true] at hh
    rcases hh with e | e
    · rw [← beq_iff_eq.1 e]; exact hd d hdm
    · exact ih d j e (hc d (hd d hdm))

/-- An operation of a region, under its guard. -/
def GOK (P : Program) (ops : List Oper) (o : Oper) (N : Nat) (r : Nat → Value) (w : World) (K : Value → World → Prop) : Prop := match o.guard with
  | none => OK P o (ev N r) w K
  | some (g, b) => ∃ t, dstOf ops g = some t ∧ (ev N r (.tmp t) = .bool b ∧ OK P o (ev N r) w K ∨ ((∃ b', ev N r (.tmp t) = .bool b' ∧ (b' == b) = false) ∨ ev N r (.tmp t) = undef) ∧ K undef w)
theorem GOK.on {P : Program} {ops : List Oper} {o : Oper} {N : Nat} {r : Nat → Value} {w : World} {K : Value → World → Prop} {g t : Nat} {b : Bool} (hg : o.guard = some (g, b)) (ht : dstOf ops g = some t) (hv : ev N r (.tmp t) = .bool b) (h : OK P o (ev N r) w K) : GOK P ops o N r w K := by
  unfold GOK; rw [hg]; exact ⟨t, ht, .inl ⟨hv, h⟩⟩
theorem GOK.off {P : Program} {ops : List Oper} {o : Oper} {N : Nat} {r : Nat → Value} {w : World} {K : Value → World → Prop} {g t : Nat} {b b' : Bool} (hg : o.guard = some (g, b)) (ht : dstOf ops g = some t) (hv : ev N r (.tmp t) = .bool b') (hne : (b' == b) = false) (h : K undef w) : GOK P ops o N r w K := by
  unfold GOK; rw [hg]; exact ⟨t, ht, .inr ⟨.inl ⟨b', hv, hne⟩, h⟩⟩
theorem GOK.offu {P : Program} {ops : List Oper} {o : Oper} {N : Nat} {r : Nat → Value} {w : World} {K : Value → World → Prop} {g t : Nat} {b : Bool} (hg : o.guard = some (g, b)) (ht : dstOf ops g = some t) (hv : ev N r (.tmp t) = undef) (h : K undef w) : GOK P ops o N r w K := by
  unfold GOK; rw [hg]; exact ⟨t, ht, .inr ⟨.inr hv, h⟩⟩
theorem GOK.free {P : Program} {ops : List Oper} {o : Oper} {N : Nat} {r : Nat → Value} {w : World} {K : Value → World → Prop} (hg : o.guard = none) (h : OK P o (ev N r) w K) : GOK P ops o N r w K := by
  unfold GOK; rw [hg]; exact h
theorem GOK.wp {P : Program} {ops : List Oper} {Q : Exit → Act → World → Prop} {o : Oper} {N i : Nat} {r : Nat → Value} {w : World} {K : Value → World → Prop} {K' : Act → World → Prop} (ho : ops.toArray[i]? = some o) (h : GOK P ops o N r w K)
    (hK : ∀ v w'', K v w'' → K' ((Go.Q.fr N r).put o.dst v) w'') : wpOp P ops.toArray Q i K' (Go.Q.fr N r) w := by
  unfold wpOp
  simp only [ho]
  obtain ⟨d, op, T, pos, after, gd⟩ := o
  unfold GOK at h
  cases gd with
  | none =>
    rw [if_pos (by simp [Region.wanted])]
    refine .inl (OK.wp ?_)
    rw [fr_eval]
    exact OK.mono h fun v w'' hk => hK v w'' hk
  | some gb =>
    obtain ⟨g, b⟩ := gb
    obtain ⟨t, ht, h⟩ := h
    obtain ⟨og, hg, ht⟩ := dstOf_spec ops g ht
    rcases h with ⟨hv, h⟩ | ⟨⟨b', hv, hne⟩ | hv, h⟩
    · rw [if_pos (by rw [wanted_fr hg ht hv]; simp)]
      refine .inl (OK.wp ?_)
      rw [fr_eval]
      exact OK.mono h fun v w'' hk => hK v w'' hk
    · rw [if_neg (by rw [wanted_fr hg ht hv, hne]; simp)]
      exact hK _ _ h
    · have hy : yielded ops.toArray (Go.Q.fr N r).tmps g = none := by
        simp only [yielded, hg, ht, Option.bind_some, fr_at]
        by_cases h : t < N
        · have hb : Nat.blt t N = true := by simpa using h
          simp only [ev, hb] at hv
          have hv' : r t = undef := hv
          rw [if_pos h, hv']; rfl
        · rw [if_neg h]
      rw [if_neg (by simp [Region.wanted, hy])]
      exact hK _ _ h
theorem msk_upd3 {ops : List Oper} {i j d : Nat} {o : Oper} {r : Nat → Value} {v : Value} (hok : flowOk3 ops = true) (ho : ops[i]? = some o) (hd : o.dst = some d) (h : ∀ k, anc ops ops.length j k = true → k ≠ i) :
    msk ops j (vsOf ops (upd r d v)) = msk ops j (vsOf ops r) := by
  funext k
  unfold msk
  split
  · rename_i hk
    unfold vsOf
    cases hok' : ops[k]? with
    | none => rfl
    | some ok =>
      have hne : ok.dst ≠ some d := (flowOk3_spec hok ho).2 k ok d hok' (h k hk) hd
      show slot (upd r d v) ok = slot r ok
      unfold slot
      cases hdk : ok.dst with
      | none => rfl
      | some t => exact upd_ne _ _ (fun e => hne (hdk.trans (congrArg some e)))
  · rfl
/-- What an operation of the region is handed when its turn comes. -/
structure Turn3 (E : World) (ops : List Oper) (F : List (List Hp)) (C : Nat → List Hp) (Tp : Nat → Value → List Hp → (Nat → Value) → Prop) (N : Nat) (r : Nat → Value) (i : Nat) (r' : Nat → Value) (w : World) (G : List (List Hp)) (hs : Nat → List Hp) : Prop where
  has : Has E w (C i :: G)
  fr : ∀ s ∈ F, s ⊆ G.flatten
  done : ∀ j o, ops[j]? = some o → anc ops ops.length i j = true → Tp j (slot r' o) (hs j) (msk ops j (vsOf ops r')) ∧ hs j ⊆ G.flatten
  todo : ∀ j, anc ops ops.length j i = true → C j ⊆ G.flatten
  old : ∀ t, (∀ j o, ops[j]? = some o → o.dst = some t → j = i ∨ anc ops ops.length j i = true) → r' t = r t
  each : ∀ j o, ops[j]? = some o → j ≠ i → C j ⊆ G.flatten ∨ (∃ v m, Tp j v (hs j) m) ∧ hs j ⊆ G.flatten

theorem c_flow3 {P : Program} {Q : Exit → Act → World → Prop} {E w : World} {N : Nat} {r : Nat → Value} {id : Nat} {ops : List Oper} (F : List (List Hp)) (C : Nat → List Hp) (Tp : Nat → Value → List Hp → (Nat → Value) → Prop)
    (hm : P.follows .mixedOrders = true) (hok : flowOk3 ops = true) (H : Has E w (F ++ (List.range ops.length).map C))
    (step : ∀ i o, ops[i]? = some o → ∀ r' w' G hs, Turn3 E ops F C Tp N r i r' w' G hs → GOK P ops o N r' w' fun v w'' => ∃ h', Tp i (match o.dst with | some _ => v | none => undef) h' (msk ops i (vsOf ops r')) ∧ Has E w'' (h' :: G))
    (fin : ∀ (vs : Nat → Value) (hs : Nat → List Hp) w', (∀ i o, ops[i]? = some o → Tp i (vs i) (hs i) (msk ops i vs)) → Has E w' (F ++ (List.range ops.length).map hs) → Q .normal (Go.Q.fr N (puts vs ops 0 r)) w') :
    (Code.region id ops.toArray true).wp P Q (Go.Q.fr N r) w := by
  refine wp_region_any hm ?_
  -- the state while some are done
  let Inv : Array Bool → Act → World → Prop := fun listed a w => listed.size = ops.length ∧ (∀ i, listed.getD i false = true → ∀ d ∈ depsOf ops i, listed.getD d false = true) ∧
    ∃ r' hs, a = Go.Q.fr N r' ∧ Has E w (F ++ (List.range ops.length).map hs) ∧ (∀ i o, ops[i]? = some o → if listed.getD i false = true then o.dst.isSome = true ∧ Tp i (slot r' o) (hs i) (msk ops i (vsOf ops r')) ∨ o.dst = none ∧ Tp i undef (hs i) (msk ops i (vsOf ops r')) else hs i = C i) ∧
    (∀ t, (∀ i o, ops[i]? = some o → o.dst = some t → listed.getD i false = false) → r' t = r t)
  have key : ∀ fuel listed a w, Inv listed a w → (List.range ops.length).countP (fun i => !listed.getD i false) ≤ fuel → wpAny P .any ops.toArray Q fuel listed a w := by
    have ready0 : ∀ listed : Array Bool, listed.size = ops.length → Region.ready .any ops.toArray listed = [] → ∀ i, i < ops.length → listed.getD i false = true := by
      intro listed hsz hr i
      induction i using Nat.strongRecOn with
      | _ i ih =>
        intro hi
        cases hl : listed.getD i false with
        | true => rfl
        | false =>
          exfalso
          obtain ⟨o, ho⟩ : ∃ o, ops[i]? = some o := ⟨_, List.getElem?_eq_getElem hi⟩
          have : i ∈ Region.ready .any ops.toArray listed := by
            refine mem_ready.2 ⟨?_, o, by simpa using ho, fun e he hb => ?_⟩
            · have : i < listed.size := by omega
              simp [this] at hl ⊢; exact hl
            · have hd := mem_depsOf ho he hb
              have hlt := (flowOk3_spec hok ho).1 _ hd
              exact ih _ hlt (by omega)
          rw [hr] at this; cases this
    have fin' : ∀ listed a w, Inv listed a w → Region.ready .any ops.toArray listed = [] → Q .normal a w := by
      rintro listed a w ⟨hsz, _, r', hs, rfl, hH, hT, hold⟩ hr
      have hall := ready0 listed hsz hr
      let vs : Nat → Value := vsOf ops r'
      have e : Go.Q.fr N r' = Go.Q.fr N (puts vs ops 0 r) := by
        refine fr_congr fun t _ => ?_
        by_cases hex : ∃ (i : Nat) (o : Oper), ops[i]? = some o ∧ o.dst = some t
        · obtain ⟨i, o, ho, hd⟩ := hex
          rw [puts_new vs ops 0 i r o t ho hd (fun j o' hj hne => (flowOk3_spec hok ho).2 j o' t hj hne hd)]
          simp [vs, vsOf, ho, slot, hd]
        · rw [puts_old vs ops 0 r t (fun o ho hd => by obtain ⟨j, hj⟩ := List.getElem?_of_mem ho; exact hex ⟨j, o, hj, hd⟩)]
          exact hold t (fun i o ho hd => absurd ⟨i, o, ho, hd⟩ hex)
      rw [e]
      refine fin vs hs w (fun i o ho => ?_) hH
      have := hT i o ho
      rw [if_pos (hall i (List.getElem?_eq_some_iff.1 ho).1)] at this
      have hvs : vs i = slot r' o := by simp only [vs, vsOf, ho]
      rw [hvs]
      rcases this with ⟨_, h⟩ | ⟨hn, h⟩
      · exact h
      · unfold slot; rw [hn]; exact h
    intro fuel
    induction fuel with
    | zero =>
      intro listed a w hI hc
      have hr : Region.ready .any ops.toArray listed = [] := by
        rw [List.eq_nil_iff_forall_not_mem]
        intro i hi
        obtain ⟨h0, o, ho, _⟩ := mem_ready.1 hi
        have hlt : i < ops.length := by simpa using (Array.getElem?_eq_some_iff.1 ho).1
        have : listed.getD i false = false := by
          have hs : i < listed.size := by rw [hI.1]; exact hlt
          simp [hs] at h0 ⊢; exact h0
        have hp : 0 < (List.range ops.length).countP (fun i => !listed.getD i false) := List.countP_pos_iff.2 ⟨i, List.mem_range.2 hlt, by rw [this]; rfl⟩
        omega
      exact ⟨hr, fin' listed a w hI hr⟩
    | succ fuel ih =>
      intro listed a w hI hc
      refine ⟨fin' listed a w hI, fun i hi => ?_⟩
      obtain ⟨hsz, hcl, r', hs, rfl, hH, hT, hold⟩ := hI
      obtain ⟨h0, o, ho', hdone⟩ := mem_ready.1 hi
      have ho : ops[i]? = some o := by simpa using ho'
      have hlt : i < ops.length := (List.getElem?_eq_some_iff.1 ho).1
      have hli : listed.getD i false = false := by
        have hs : i < listed.size := by omega
        simp [hs] at h0 ⊢; exact h0
      obtain ⟨hdlt, hdist⟩ := flowOk3_spec hok ho
      have hdeps : ∀ d ∈ depsOf ops i, listed.getD d false = true := by
        intro d hd
        unfold depsOf at hd
        rw [ho] at hd
        obtain ⟨e, he, heq⟩ := List.mem_filterMap.1 hd
        split at heq
        · cases heq; exact hdone e (by simpa using he) (by assumption)
        · cases heq
      -- the heaplets: the one at i in front
      let G : List (List Hp) := F ++ ((List.range i).map hs ++ (List.range' (i + 1) (ops.length - (i + 1))).map hs)
      have hsplit : List.range ops.length = List.range i ++ i :: List.range' (i + 1) (ops.length - (i + 1)) := by
        rw [List.range_eq_range', List.range_eq_range', show i :: List.range' (i + 1) (ops.length - (i + 1)) = List.range' i (ops.length - i) from by
          rw [show ops.length - i = (ops.length - (i + 1)) + 1 by omega, List.range'_succ]]
        have := List.range'_append_1 (s := 0) (m := i) (n := ops.length - i)
        rw [Nat.zero_add] at this
        rw [this]; congr 1; omega
      have mapsplit : ∀ f : Nat → List Hp, (List.range ops.length).map f = (List.range i).map f ++ f i :: (List.range' (i + 1) (ops.length - (i + 1))).map f := by
        intro f; rw [hsplit]; simp
      have hperm : ∀ f : Nat → List Hp, (F ++ (List.range ops.length).map f).Perm (f i :: (F ++ ((List.range i).map f ++ (List.range' (i + 1) (ops.length - (i + 1))).map f))) := by
        intro f
        rw [mapsplit f, ← List.append_assoc, ← List.append_assoc]
        exact List.perm_middle
      have hhi : hs i = C i := by have := hT i o ho; rw [if_neg (by rw [hli]; simp)] at this; exact this
      have inG : ∀ j, j < ops.length → j ≠ i → hs j ∈ G := by
        intro j hj hne
        refine List.mem_append_right _ ?_
        rcases Nat.lt_or_gt_of_ne hne with h | h
        · exact List.mem_append_left _ (List.mem_map.2 ⟨j, List.mem_range.2 h, rfl⟩)
        · exact List.mem_append_right _ (List.mem_map.2 ⟨j, by rw [List.mem_range'_1]; omega, rfl⟩)
      have subG : ∀ s ∈ G, s ⊆ G.flatten := fun s hs' x hx => List.mem_flatten.2 ⟨s, hs', hx⟩
      have ancNe : ∀ j, listed.getD j false = true → j ≠ i := fun j hj e => by rw [e, hli] at hj; cases hj
      have turn : Turn3 E ops F C Tp N r i r' w G hs := by
        refine ⟨?_, fun s hs' => subG s (List.mem_append_left _ hs'), fun j oj hoj hanc => ?_, fun j hanc => ?_, fun t ht => ?_, fun j oj hoj hne => ?_⟩
        · rw [← hhi]; exact hH.perm (hperm hs).symm
        · have hl := anc_trans3 hok hcl _ i j hanc hdeps
          refine ⟨?_, subG _ (inG j (List.getElem?_eq_some_iff.1 hoj).1 (ancNe j hl))⟩
          have := hT j oj hoj
          rw [if_pos hl] at this
          rcases this with ⟨_, h⟩ | ⟨hn, h⟩
          · exact h
          · unfold slot; rw [hn]; exact h
        · cases hj : ops[j]? with
          | none =>
            exfalso
            unfold anc at hanc
            split at hanc
            · cases hanc
            · simp [depsOf, hj] at hanc
          | some oj =>
            have hnl : listed.getD j false = false := by
              cases hl : listed.getD j false with
              | false => rfl
              | true =>
                have := anc_trans3 hok hcl _ j i hanc (hcl j hl)
                rw [hli] at this; cases this
            have hjl := (List.getElem?_eq_some_iff.1 hj).1
            have hne : j ≠ i := by
              rintro rfl
              have := anc_trans3 hok hcl _ j j hanc hdeps
              rw [hli] at this; cases this
            have := hT j oj hj
            rw [if_neg (by rw [hnl]; simp)] at this
            rw [← this]; exact subG _ (inG j hjl hne)
        · refine hold t (fun j oj hoj hd => ?_)
          rcases ht j oj hoj hd with rfl | hanc
          · exact hli
          · cases hl : listed.getD j false with
            | false => rfl
            | true =>
              have := anc_trans3 hok hcl _ j i hanc (hcl j hl)
              rw [hli] at this; cases this
        · have hG := subG _ (inG j (List.getElem?_eq_some_iff.1 hoj).1 hne)
          have := hT j oj hoj
          cases hl : listed.getD j false with
          | true =>
            rw [if_pos hl] at this
            rcases this with ⟨_, h⟩ | ⟨_, h⟩
            · exact .inr ⟨⟨_, _, h⟩, hG⟩
            · exact .inr ⟨⟨_, _, h⟩, hG⟩
          | false =>
            rw [if_neg (by rw [hl]; simp)] at this
            rw [← this]; exact .inl hG
      have hstep := step i o ho r' w G hs turn
      have hnext : ∀ (v : Value) (w'' : World), (∃ h', Tp i (match o.dst with | some _ => v | none => undef) h' (msk ops i (vsOf ops r')) ∧ Has E w'' (h' :: G)) →
          wpAny P .any ops.toArray Q fuel (listed.setIfInBounds i true) ((Go.Q.fr N r').put o.dst v) w'' := ?_
      · exact GOK.wp ho' hstep hnext
      rintro v w'' ⟨h', hTi, hH'⟩
      refine ih _ _ _ ⟨by simpa using hsz, ?_, ?_⟩ ?_
      · intro j hj d hd
        by_cases hji : i = j
        · subst hji; exact getD_set_true (hdeps d hd)
        · rw [getD_set_ne false hji] at hj
          exact getD_set_true (hcl j hj d hd)
      · let hs' : Nat → List Hp := fun j => if j = i then h' else hs j
        have hsG : F ++ ((List.range i).map hs' ++ (List.range' (i + 1) (ops.length - (i + 1))).map hs') = G := by
          have e1 : (List.range i).map hs' = (List.range i).map hs := List.map_congr_left fun j hj => by
            have := List.mem_range.1 hj; simp only [hs']; rw [if_neg (by omega)]
          have e2 : (List.range' (i + 1) (ops.length - (i + 1))).map hs' = (List.range' (i + 1) (ops.length - (i + 1))).map hs := List.map_congr_left fun j hj => by
            have := List.mem_range'_1.1 hj; simp only [hs']; rw [if_neg (by omega)]
          rw [e1, e2]
        have hH2 : Has E w'' (F ++ (List.range ops.length).map hs') := by
          refine hH'.perm ((hperm hs').trans ?_)
          rw [hsG]
          simp [hs']
        have hset : ∀ j, j ≠ i → (listed.setIfInBounds i true).getD j false = listed.getD j false := fun j hj => getD_set_ne false (Ne.symm hj)
        have hseti : (listed.setIfInBounds i true).getD i false = true := by
          have : i < listed.size := by omega
          simp [this]
        cases hd : o.dst with
        | none =>
          refine ⟨r', hs', by rw [fr_put_none], hH2, fun j oj hoj => ?_, fun t ht => hold t fun j oj hoj hdj => ?_⟩
          · by_cases hji : j = i
            · subst hji
              rw [ho] at hoj; cases hoj
              rw [if_pos hseti]
              rw [hd] at hTi
              exact .inr ⟨hd, by simpa [hs'] using hTi⟩
            · rw [hset j hji]
              have := hT j oj hoj
              simpa [hs', hji] using this
          · by_cases hji : j = i
            · subst hji; exact hli
            · have := ht j oj hoj hdj; rwa [hset j hji] at this
        | some d =>
          refine ⟨upd r' d v, hs', by rw [fr_put], hH2, fun j oj hoj => ?_, fun t ht => ?_⟩
          · by_cases hji : j = i
            · subst hji
              rw [ho] at hoj; cases hoj
              rw [if_pos hseti]
              refine .inl ⟨by rw [hd]; rfl, ?_⟩
              rw [hd] at hTi
              rw [msk_upd3 hok ho hd (fun k hk => ancNe k (anc_trans3 hok hcl _ j k hk hdeps))]
              simp only [slot, hd, upd_same, hs', if_true]; exact hTi
            · rw [hset j hji]
              have := hT j oj hoj
              have hne : oj.dst ≠ some d := hdist j oj d hoj hji hd
              have hsl : slot (upd r' d v) oj = slot r' oj := by
                unfold slot
                cases hdj : oj.dst with
                | none => rfl
                | some t => exact upd_ne _ _ (fun e => hne (by rw [hdj, e]))
              cases hlj : listed.getD j false with
              | true =>
                rw [msk_upd3 hok ho hd (fun k hk => ancNe k (anc_trans3 hok hcl _ j k hk (hcl j hlj)))]
                simpa [hs', hji, hsl, hlj] using this
              | false => simpa [hs', hji, hlj] using this
          · have hne : t ≠ d := by
              rintro rfl
              have := ht i o ho hd
              rw [hseti] at this; cases this
            rw [upd_ne _ _ hne]
            refine hold t fun j oj hoj hdj => ?_
            by_cases hji : j = i
            · subst hji; exact hli
            · have := ht j oj hoj hdj; rwa [hset j hji] at this
      · have : (List.range ops.length).countP (fun j => !(listed.setIfInBounds i true).getD j false) < (List.range ops.length).countP (fun j => !listed.getD j false) := by
          have hset : ∀ j, j ≠ i → (listed.setIfInBounds i true).getD j false = listed.getD j false := fun j hj => getD_set_ne false (Ne.symm hj)
          have hseti : (listed.setIfInBounds i true).getD i false = true := by
            have : i < listed.size := by omega
            simp [this]
          rw [hsplit, List.countP_append, List.countP_cons, List.countP_append, List.countP_cons, hseti, hli]
          have e1 : (List.range i).countP (fun j => !(listed.setIfInBounds i true).getD j false) = (List.range i).countP (fun j => !listed.getD j false) :=
            List.countP_congr fun j hj => by have := List.mem_range.1 hj; rw [hset j (by omega)]
          have e2 : (List.range' (i + 1) (ops.length - (i + 1))).countP (fun j => !(listed.setIfInBounds i true).getD j false) = (List.range' (i + 1) (ops.length - (i + 1))).countP (fun j => !listed.getD j false) :=
            List.countP_congr fun j hj => by have := List.mem_range'_1.1 hj; rw [hset j (by omega)]
          rw [e1, e2]; simp
        omega
  have h0 : Inv (Array.replicate ops.toArray.size false) (Go.Q.fr N r) { w with drawn := w.drawn + 1 } := by
    have hf : ∀ i, (Array.replicate ops.toArray.size false).getD i false = false := by
      intro i; by_cases h : i < ops.length <;> simp [h]
    refine ⟨by simp, fun i hi => ?_, r, C, rfl, H.drew _, fun i o _ => ?_, fun _ _ => rfl⟩
    · rw [hf] at hi; cases hi
    · rw [if_neg (by rw [hf]; simp)]
  refine key _ _ _ _ h0 ?_
  refine Nat.le_trans List.countP_le_length (by simp)

theorem Turn3.was {E : World} {ops : List Oper} {F : List (List Hp)} {C : Nat → List Hp} {Tp : Nat → Value → List Hp → (Nat → Value) → Prop} {N : Nat} {r : Nat → Value} {i : Nat} {r' : Nat → Value} {w : World} {G : List (List Hp)} {hs : Nat → List Hp}
    (H : Turn3 E ops F C Tp N r i r' w G hs) (t : Nat) (h : oldB ops i t = true) : r' t = r t := by
  refine H.old t fun j o ho hd => ?_
  unfold oldB at h
  rw [List.all_eq_true] at h
  have := h j (List.mem_range.2 (List.getElem?_eq_some_iff.1 ho).1)
  simp only [ho, Bool.or_eq_true, bne_iff_ne, beq_iff_eq] at this
  rcases this with (h | h) | h
  · exact absurd hd h
  · exact .inl h
  · exact .inr h
end Go.Q
namespace Go.Q
/-- From m on each operation comes behind all that are ahead of it. -/
def seqB (ops : List Oper) (m : Nat) : Bool := (List.range' m (ops.length - m)).all fun i => (List.range i).all fun j => anc ops ops.length i j
theorem seqB_spec {ops : List Oper} {m : Nat} (h : seqB ops m = true) : ∀ i j, m ≤ i → i < ops.length → j < i → anc ops ops.length i j = true := fun i j h1 h2 h3 => by
  unfold seqB at h
  rw [List.all_eq_true] at h
  have := h i (List.mem_range'_1.2 (by omega))
  rw [List.all_eq_true] at this
  exact this j (List.mem_range.2 h3)
theorem seq_any {P : Program} {Q : Exit → Act → World → Prop} {ops : List Oper} (hok : flowOk3 ops = true) : ∀ (n k : Nat) (listed : Array Bool) (a : Act) (w : World), k + n = ops.length → listed.size = ops.length → (∀ i, i < k → listed.getD i false = true) → (∀ i, k ≤ i → listed.getD i false = false) →
    (∀ i j, k ≤ i → i < ops.length → j < i → anc ops ops.length i j = true) → wpOps P ops.toArray Q (List.range' k n) a w → ∀ fuel, n ≤ fuel → wpAny P .any ops.toArray Q fuel listed a w
  | 0, k, listed, a, w, hk, hsz, hall, hnot, hsq, h, fuel, hf => by
    have hr : Region.ready .any ops.toArray listed = [] := by
      rw [List.eq_nil_iff_forall_not_mem]
      intro i hi
      obtain ⟨h0, o, ho, _⟩ := mem_ready.1 hi
      have hlt : i < ops.length := by simpa using (Array.getElem?_eq_some_iff.1 ho).1
      have h1 := hall i (by omega)
      have hs : i < listed.size := by omega
      simp [hs] at h0 h1; rw [h0] at h1; cases h1
    cases fuel with
    | zero => exact ⟨hr, h⟩
    | succ f => exact ⟨fun _ => h, fun i hi => by rw [hr] at hi; cases hi⟩
  | n + 1, k, listed, a, w, hk, hsz, hall, hnot, hsq, h, fuel, hf => by
    obtain ⟨f, rfl⟩ : ∃ f, fuel = f + 1 := ⟨fuel - 1, by omega⟩
    have hlk : k < ops.length := by omega
    have hcl : ∀ i, listed.getD i false = true → ∀ d ∈ depsOf ops i, listed.getD d false = true := fun i hi d hd => by
      have hik : i < k := by
        rcases Nat.lt_or_ge i k with g | g
        · exact g
        · rw [hnot i g] at hi; cases hi
      have := (flowOk3_spec hok (List.getElem?_eq_getElem (show i < ops.length by omega))).1 d hd
      exact hall d (by omega)
    have hkr : k ∈ Region.ready .any ops.toArray listed := by
      refine mem_ready.2 ⟨?_, ops[k], by simp [hlk], fun e he hb => ?_⟩
      · have h1 := hnot k (Nat.le_refl _)
        have hs : k < listed.size := by omega
        simp [hs] at h1 ⊢; exact h1
      · have hd := mem_depsOf (List.getElem?_eq_getElem hlk) he hb
        exact hall _ ((flowOk3_spec hok (List.getElem?_eq_getElem hlk)).1 _ hd)
    refine ⟨fun hr => (by rw [hr] at hkr; cases hkr), fun i hi => ?_⟩
    obtain ⟨h0, o, ho, hdone⟩ := mem_ready.1 hi
    have hlt : i < ops.length := by simpa using (Array.getElem?_eq_some_iff.1 ho).1
    have hli : listed.getD i false = false := by
      have hs : i < listed.size := by omega
      simp [hs] at h0 ⊢; exact h0
    have hdeps : ∀ d ∈ depsOf ops i, listed.getD d false = true := by
      intro d hd
      unfold depsOf at hd
      rw [show ops[i]? = some o by simpa using ho] at hd
      obtain ⟨e, he, heq⟩ := List.mem_filterMap.1 hd
      split at heq
      · cases heq; exact hdone e (by simpa using he) (by assumption)
      · cases heq
    have hik : i = k := by
      rcases Nat.lt_trichotomy i k with g | g | g
      · rw [hall i g] at hli; cases hli
      · exact g
      · have := anc_trans3 hok hcl _ i k (hsq i k (by omega) hlt g) hdeps
        rw [hnot k (Nat.le_refl _)] at this; cases this
    subst hik
    rw [List.range'_succ, wpOps_cons] at h
    refine wpOp_mono (fun a' w' h' => ?_) h
    refine seq_any hok n (i + 1) _ a' w' (by omega) (by simpa using hsz) (fun j hj => ?_) (fun j hj => ?_) (fun j l h1 h2 h3 => hsq j l (by omega) h2 h3) h' f (by omega)
    · by_cases e : i = j
      · subst e
        have : i < listed.size := by omega
        simp [this]
      · rw [getD_set_ne false e]; exact hall j (by omega)
    · rw [getD_set_ne false (show i ≠ j by omega)]; exact hnot j (by omega)
theorem c_flow4 {P : Program} {Q : Exit → Act → World → Prop} {E w : World} {N : Nat} {r : Nat → Value} {id : Nat} {ops : List Oper} (F : List (List Hp)) (C : Nat → List Hp) (Tp : Nat → Value → List Hp → (Nat → Value) → Prop)
    (hm : P.follows .mixedOrders = true) (m : Nat) (hok : flowOk3 ops = true) (hml : m ≤ ops.length) (hsqb : seqB ops m = true) (H : Has E w (F ++ (List.range ops.length).map C))
    (step : ∀ i o, i < m → ops[i]? = some o → ∀ r' w' G hs, Turn3 E ops F C Tp N r i r' w' G hs → GOK P ops o N r' w' fun v w'' => ∃ h', Tp i (match o.dst with | some _ => v | none => undef) h' (msk ops i (vsOf ops r')) ∧ Has E w'' (h' :: G))
    (fin : ∀ (vs : Nat → Value) (hs : Nat → List Hp) w', (∀ i o, i < m → ops[i]? = some o → Tp i (vs i) (hs i) (msk ops i vs)) → (∀ i, m ≤ i → i < ops.length → hs i = C i) → Has E w' (F ++ (List.range ops.length).map hs) → wpList P ops.toArray Q (ops.drop m) (Go.Q.fr N (puts vs (ops.take m) 0 r)) w') :
    (Code.region id ops.toArray true).wp P Q (Go.Q.fr N r) w := by
  have hsq := seqB_spec hsqb
  refine wp_region_any hm ?_
  -- the state while some are done
  let Inv : Array Bool → Act → World → Prop := fun listed a w => listed.size = ops.length ∧ (∀ i, m ≤ i → listed.getD i false = false) ∧ (∀ i, listed.getD i false = true → ∀ d ∈ depsOf ops i, listed.getD d false = true) ∧
    ∃ r' hs, a = Go.Q.fr N r' ∧ Has E w (F ++ (List.range ops.length).map hs) ∧ (∀ i o, ops[i]? = some o → if listed.getD i false = true then o.dst.isSome = true ∧ Tp i (slot r' o) (hs i) (msk ops i (vsOf ops r')) ∨ o.dst = none ∧ Tp i undef (hs i) (msk ops i (vsOf ops r')) else hs i = C i) ∧
    (∀ t, (∀ i o, ops[i]? = some o → o.dst = some t → listed.getD i false = false) → r' t = r t)
  have key : ∀ fuel listed a w, Inv listed a w → (List.range ops.length).countP (fun i => !listed.getD i false) ≤ fuel → wpAny P .any ops.toArray Q fuel listed a w := by
    have ready0 : ∀ listed : Array Bool, listed.size = ops.length → Region.ready .any ops.toArray listed = [] → ∀ i, i < ops.length → listed.getD i false = true := by
      intro listed hsz hr i
      induction i using Nat.strongRecOn with
      | _ i ih =>
        intro hi
        cases hl : listed.getD i false with
        | true => rfl
        | false =>
          exfalso
          obtain ⟨o, ho⟩ : ∃ o, ops[i]? = some o := ⟨_, List.getElem?_eq_getElem hi⟩
          have : i ∈ Region.ready .any ops.toArray listed := by
            refine mem_ready.2 ⟨?_, o, by simpa using ho, fun e he hb => ?_⟩
            · have : i < listed.size := by omega
              simp [this] at hl ⊢; exact hl
            · have hd := mem_depsOf ho he hb
              have hlt := (flowOk3_spec hok ho).1 _ hd
              exact ih _ hlt (by omega)
          rw [hr] at this; cases this
    have fin' : ∀ fuel listed a w, Inv listed a w → (List.range ops.length).countP (fun i => !listed.getD i false) ≤ fuel → (∀ i, i < m → listed.getD i false = true) → wpAny P .any ops.toArray Q fuel listed a w := by
      rintro fuel listed a w ⟨hsz, hnot, _, r', hs, rfl, hH, hT, hold⟩ hc hall
      let vs : Nat → Value := vsOf ops r'
      have htk : ∀ j o', (ops.take m)[j]? = some o' → ops[j]? = some o' ∧ j < m := fun j o' hj => by
        rw [List.getElem?_take] at hj
        split at hj
        · exact ⟨hj, by assumption⟩
        · cases hj
      have e : Go.Q.fr N r' = Go.Q.fr N (puts vs (ops.take m) 0 r) := by
        refine fr_congr fun t _ => ?_
        by_cases hex : ∃ (i : Nat) (o : Oper), (ops.take m)[i]? = some o ∧ o.dst = some t
        · obtain ⟨i, o, ho, hd⟩ := hex
          rw [puts_new vs (ops.take m) 0 i r o t ho hd (fun j o' hj hne => (flowOk3_spec hok (htk i o ho).1).2 j o' t (htk j o' hj).1 hne hd)]
          simp [vs, vsOf, (htk i o ho).1, slot, hd]
        · rw [puts_old vs (ops.take m) 0 r t (fun o ho hd => by obtain ⟨j, hj⟩ := List.getElem?_of_mem ho; exact hex ⟨j, o, hj, hd⟩)]
          refine hold t (fun i o ho hd => ?_)
          rcases Nat.lt_or_ge i m with g | g
          · exact absurd ⟨i, o, by rw [List.getElem?_take, if_pos g]; exact ho, hd⟩ hex
          · exact hnot i g
      have hw := fin vs hs w (fun i o hi ho => by
        have := hT i o ho
        rw [if_pos (hall i hi)] at this
        have hvs : vs i = slot r' o := by simp only [vs, vsOf, ho]
        rw [hvs]
        rcases this with ⟨_, h⟩ | ⟨hn, h⟩
        · exact h
        · unfold slot; rw [hn]; exact h) (fun i hi hl => by
        have := hT i _ (List.getElem?_eq_getElem hl)
        rw [if_neg (by rw [hnot i hi]; simp)] at this; exact this) hH
      rw [← e] at hw
      have hcount : ops.length - m ≤ (List.range ops.length).countP (fun i => !listed.getD i false) := by
        have : List.range ops.length = List.range m ++ List.range' m (ops.length - m) := by
          have := List.range'_append_1 (s := 0) (m := m) (n := ops.length - m)
          rw [Nat.zero_add] at this
          rw [List.range_eq_range', List.range_eq_range', this]; congr 1; omega
        rw [this, List.countP_append]
        have h2 : (List.range' m (ops.length - m)).countP (fun i => !listed.getD i false) = (List.range' m (ops.length - m)).length := by
          rw [List.countP_eq_length]
          intro i hi
          rw [hnot i (by have := List.mem_range'_1.1 hi; omega)]; rfl
        rw [h2, List.length_range']; omega
      refine seq_any hok (ops.length - m) m listed _ w (by omega) hsz hall hnot hsq ?_ fuel (by omega)
      have := wpOps_eq_wpList (P := P) (Q := Q) (ops := ops.toArray) (ops.drop m) m (fun j => by simp)
      rw [List.length_drop] at this
      rw [this]; exact hw
    intro fuel
    induction fuel with
    | zero =>
      intro listed a w hI hc
      refine fin' 0 listed a w hI hc fun i hi => ?_
      cases hl : listed.getD i false with
      | true => rfl
      | false =>
        have hp : 0 < (List.range ops.length).countP (fun i => !listed.getD i false) := List.countP_pos_iff.2 ⟨i, List.mem_range.2 (by omega), by rw [hl]; rfl⟩
        omega
    | succ fuel ih =>
      intro listed a w hI hc
      by_cases hall : ∀ i, i < m → listed.getD i false = true
      · exact fin' _ listed a w hI hc hall
      refine ⟨fun hr => absurd (fun i hi => ready0 listed hI.1 hr i (by omega)) hall, fun i hi => ?_⟩
      obtain ⟨hsz, hnot, hcl, r', hs, rfl, hH, hT, hold⟩ := hI
      obtain ⟨h0, o, ho', hdone⟩ := mem_ready.1 hi
      have ho : ops[i]? = some o := by simpa using ho'
      have hlt : i < ops.length := (List.getElem?_eq_some_iff.1 ho).1
      have hli : listed.getD i false = false := by
        have hs : i < listed.size := by omega
        simp [hs] at h0 ⊢; exact h0
      obtain ⟨hdlt, hdist⟩ := flowOk3_spec hok ho
      have hdeps : ∀ d ∈ depsOf ops i, listed.getD d false = true := by
        intro d hd
        unfold depsOf at hd
        rw [ho] at hd
        obtain ⟨e, he, heq⟩ := List.mem_filterMap.1 hd
        split at heq
        · cases heq; exact hdone e (by simpa using he) (by assumption)
        · cases heq
      have him : i < m := by
        rcases Nat.lt_or_ge i m with g | g
        · exact g
        · exact absurd (fun j hj => anc_trans3 hok hcl _ i j (hsq i j g hlt (by omega)) hdeps) hall
      -- the heaplets: the one at i in front
      let G : List (List Hp) := F ++ ((List.range i).map hs ++ (List.range' (i + 1) (ops.length - (i + 1))).map hs)
      have hsplit : List.range ops.length = List.range i ++ i :: List.range' (i + 1) (ops.length - (i + 1)) := by
        rw [List.range_eq_range', List.range_eq_range', show i :: List.range' (i + 1) (ops.length - (i + 1)) = List.range' i (ops.length - i) from by
          rw [show ops.length - i = (ops.length - (i + 1)) + 1 by omega, List.range'_succ]]
        have := List.range'_append_1 (s := 0) (m := i) (n := ops.length - i)
        rw [Nat.zero_add] at this
        rw [this]; congr 1; omega
      have mapsplit : ∀ f : Nat → List Hp, (List.range ops.length).map f = (List.range i).map f ++ f i :: (List.range' (i + 1) (ops.length - (i + 1))).map f := by
        intro f; rw [hsplit]; simp
      have hperm : ∀ f : Nat → List Hp, (F ++ (List.range ops.length).map f).Perm (f i :: (F ++ ((List.range i).map f ++ (List.range' (i + 1) (ops.length - (i + 1))).map f))) := by
        intro f
        rw [mapsplit f, ← List.append_assoc, ← List.append_assoc]
        exact List.perm_middle
      have hhi : hs i = C i := by have := hT i o ho; rw [if_neg (by rw [hli]; simp)] at this; exact this
      have inG : ∀ j, j < ops.length → j ≠ i → hs j ∈ G := by
        intro j hj hne
        refine List.mem_append_right _ ?_
        rcases Nat.lt_or_gt_of_ne hne with h | h
        · exact List.mem_append_left _ (List.mem_map.2 ⟨j, List.mem_range.2 h, rfl⟩)
        · exact List.mem_append_right _ (List.mem_map.2 ⟨j, by rw [List.mem_range'_1]; omega, rfl⟩)
      have subG : ∀ s ∈ G, s ⊆ G.flatten := fun s hs' x hx => List.mem_flatten.2 ⟨s, hs', hx⟩
      have ancNe : ∀ j, listed.getD j false = true → j ≠ i := fun j hj e => by rw [e, hli] at hj; cases hj
      have turn : Turn3 E ops F C Tp N r i r' w G hs := by
        refine ⟨?_, fun s hs' => subG s (List.mem_append_left _ hs'), fun j oj hoj hanc => ?_, fun j hanc => ?_, fun t ht => ?_, fun j oj hoj hne => ?_⟩
        · rw [← hhi]; exact hH.perm (hperm hs).symm
        · have hl := anc_trans3 hok hcl _ i j hanc hdeps
          refine ⟨?_, subG _ (inG j (List.getElem?_eq_some_iff.1 hoj).1 (ancNe j hl))⟩
          have := hT j oj hoj
          rw [if_pos hl] at this
          rcases this with ⟨_, h⟩ | ⟨hn, h⟩
          · exact h
          · unfold slot; rw [hn]; exact h
        · cases hj : ops[j]? with
          | none =>
            exfalso
            unfold anc at hanc
            split at hanc
            · cases hanc
            · simp [depsOf, hj] at hanc
          | some oj =>
            have hnl : listed.getD j false = false := by
              cases hl : listed.getD j false with
              | false => rfl
              | true =>
                have := anc_trans3 hok hcl _ j i hanc (hcl j hl)
                rw [hli] at this; cases this
            have hjl := (List.getElem?_eq_some_iff.1 hj).1
            have hne : j ≠ i := by
              rintro rfl
              have := anc_trans3 hok hcl _ j j hanc hdeps
              rw [hli] at this; cases this
            have := hT j oj hj
            rw [if_neg (by rw [hnl]; simp)] at this
            rw [← this]; exact subG _ (inG j hjl hne)
        · refine hold t (fun j oj hoj hd => ?_)
          rcases ht j oj hoj hd with rfl | hanc
          · exact hli
          · cases hl : listed.getD j false with
            | false => rfl
            | true =>
              have := anc_trans3 hok hcl _ j i hanc (hcl j hl)
              rw [hli] at this; cases this
        · have hG := subG _ (inG j (List.getElem?_eq_some_iff.1 hoj).1 hne)
          have := hT j oj hoj
          cases hl : listed.getD j false with
          | true =>
            rw [if_pos hl] at this
            rcases this with ⟨_, h⟩ | ⟨_, h⟩
            · exact .inr ⟨⟨_, _, h⟩, hG⟩
            · exact .inr ⟨⟨_, _, h⟩, hG⟩
          | false =>
            rw [if_neg (by rw [hl]; simp)] at this
            rw [← this]; exact .inl hG
      have hstep := step i o him ho r' w G hs turn
      have hnext : ∀ (v : Value) (w'' : World), (∃ h', Tp i (match o.dst with | some _ => v | none => undef) h' (msk ops i (vsOf ops r')) ∧ Has E w'' (h' :: G)) →
          wpAny P .any ops.toArray Q fuel (listed.setIfInBounds i true) ((Go.Q.fr N r').put o.dst v) w'' := ?_
      · exact GOK.wp ho' hstep hnext
      rintro v w'' ⟨h', hTi, hH'⟩
      refine ih _ _ _ ⟨by simpa using hsz, fun j hj => by rw [getD_set_ne false (show i ≠ j by omega)]; exact hnot j hj, ?_, ?_⟩ ?_
      · intro j hj d hd
        by_cases hji : i = j
        · subst hji; exact getD_set_true (hdeps d hd)
        · rw [getD_set_ne false hji] at hj
          exact getD_set_true (hcl j hj d hd)
      · let hs' : Nat → List Hp := fun j => if j = i then h' else hs j
        have hsG : F ++ ((List.range i).map hs' ++ (List.range' (i + 1) (ops.length - (i + 1))).map hs') = G := by
          have e1 : (List.range i).map hs' = (List.range i).map hs := List.map_congr_left fun j hj => by
            have := List.mem_range.1 hj; simp only [hs']; rw [if_neg (by omega)]
          have e2 : (List.range' (i + 1) (ops.length - (i + 1))).map hs' = (List.range' (i + 1) (ops.length - (i + 1))).map hs := List.map_congr_left fun j hj => by
            have := List.mem_range'_1.1 hj; simp only [hs']; rw [if_neg (by omega)]
          rw [e1, e2]
        have hH2 : Has E w'' (F ++ (List.range ops.length).map hs') := by
          refine hH'.perm ((hperm hs').trans ?_)
          rw [hsG]
          simp [hs']
        have hset : ∀ j, j ≠ i → (listed.setIfInBounds i true).getD j false = listed.getD j false := fun j hj => getD_set_ne false (Ne.symm hj)
        have hseti : (listed.setIfInBounds i true).getD i false = true := by
          have : i < listed.size := by omega
          simp [this]
        cases hd : o.dst with
        | none =>
          refine ⟨r', hs', by rw [fr_put_none], hH2, fun j oj hoj => ?_, fun t ht => hold t fun j oj hoj hdj => ?_⟩
          · by_cases hji : j = i
            · subst hji
              rw [ho] at hoj; cases hoj
              rw [if_pos hseti]
              rw [hd] at hTi
              exact .inr ⟨hd, by simpa [hs'] using hTi⟩
            · rw [hset j hji]
              have := hT j oj hoj
              simpa [hs', hji] using this
          · by_cases hji : j = i
            · subst hji; exact hli
            · have := ht j oj hoj hdj; rwa [hset j hji] at this
        | some d =>
          refine ⟨upd r' d v, hs', by rw [fr_put], hH2, fun j oj hoj => ?_, fun t ht => ?_⟩
          · by_cases hji : j = i
            · subst hji
              rw [ho] at hoj; cases hoj
              rw [if_pos hseti]
              refine .inl ⟨by rw [hd]; rfl, ?_⟩
              rw [hd] at hTi
              rw [msk_upd3 hok ho hd (fun k hk => ancNe k (anc_trans3 hok hcl _ j k hk hdeps))]
              simp only [slot, hd, upd_same, hs', if_true]; exact hTi
            · rw [hset j hji]
              have := hT j oj hoj
              have hne : oj.dst ≠ some d := hdist j oj d hoj hji hd
              have hsl : slot (upd r' d v) oj = slot r' oj := by
                unfold slot
                cases hdj : oj.dst with
                | none => rfl
                | some t => exact upd_ne _ _ (fun e => hne (by rw [hdj, e]))
              cases hlj : listed.getD j false with
              | true =>
                rw [msk_upd3 hok ho hd (fun k hk => ancNe k (anc_trans3 hok hcl _ j k hk (hcl j hlj)))]
                simpa [hs', hji, hsl, hlj] using this
              | false => simpa [hs', hji, hlj] using this
          · have hne : t ≠ d := by
              rintro rfl
              have := ht i o ho hd
              rw [hseti] at this; cases this
            rw [upd_ne _ _ hne]
            refine hold t fun j oj hoj hdj => ?_
            by_cases hji : j = i
            · subst hji; exact hli
            · have := ht j oj hoj hdj; rwa [hset j hji] at this
      · have : (List.range ops.length).countP (fun j => !(listed.setIfInBounds i true).getD j false) < (List.range ops.length).countP (fun j => !listed.getD j false) := by
          have hset : ∀ j, j ≠ i → (listed.setIfInBounds i true).getD j false = listed.getD j false := fun j hj => getD_set_ne false (Ne.symm hj)
          have hseti : (listed.setIfInBounds i true).getD i false = true := by
            have : i < listed.size := by omega
            simp [this]
          rw [hsplit, List.countP_append, List.countP_cons, List.countP_append, List.countP_cons, hseti, hli]
          have e1 : (List.range i).countP (fun j => !(listed.setIfInBounds i true).getD j false) = (List.range i).countP (fun j => !listed.getD j false) :=
            List.countP_congr fun j hj => by have := List.mem_range.1 hj; rw [hset j (by omega)]
          have e2 : (List.range' (i + 1) (ops.length - (i + 1))).countP (fun j => !(listed.setIfInBounds i true).getD j false) = (List.range' (i + 1) (ops.length - (i + 1))).countP (fun j => !listed.getD j false) :=
            List.countP_congr fun j hj => by have := List.mem_range'_1.1 hj; rw [hset j (by omega)]
          rw [e1, e2]; simp
        omega
  have h0 : Inv (Array.replicate ops.toArray.size false) (Go.Q.fr N r) { w with drawn := w.drawn + 1 } := by
    have hf : ∀ i, (Array.replicate ops.toArray.size false).getD i false = false := by
      intro i; by_cases h : i < ops.length <;> simp [h]
    refine ⟨by simp, fun i _ => hf i, fun i hi => ?_, r, C, rfl, H.drew _, fun i o _ => ?_, fun _ _ => rfl⟩
    · rw [hf] at hi; cases hi
    · rw [if_neg (by rw [hf]; simp)]
  refine key _ _ _ _ h0 ?_
  refine Nat.le_trans List.countP_le_length (by simp)

end Go.Q
namespace Go.Q
/-- All that is behind m waits for all that is ahead. -/
def barB (ops : List Oper) (m : Nat) : Bool := (List.range' m (ops.length - m)).all fun i => (List.range m).all fun j => anc ops ops.length i j
theorem barB_spec {ops : List Oper} {m : Nat} (h : barB ops m = true) : ∀ i j, m ≤ i → i < ops.length → j < m → anc ops ops.length i j = true := fun i j h1 h2 h3 => by
  unfold barB at h
  rw [List.all_eq_true] at h
  have := h i (List.mem_range'_1.2 (by omega))
  rw [List.all_eq_true] at this
  exact this j (List.mem_range.2 h3)
/-- What is to be shown where the first m operations are done. -/
def Rest (P : Program) (Q : Exit → Act → World → Prop) (ops : List Oper) (m : Nat) (a : Act) (w : World) : Prop :=
  flowOk3 ops = true → ∀ (fuel : Nat) (listed : Array Bool), listed.size = ops.length → (∀ i, i < m → listed.getD i false = true) → (∀ i, m ≤ i → listed.getD i false = false) → ops.length - m ≤ fuel → wpAny P .any ops.toArray Q fuel listed a w
theorem Rest.region {P : Program} {Q : Exit → Act → World → Prop} {w : World} {N : Nat} {r : Nat → Value} {id : Nat} {ops : List Oper} (hm : P.follows .mixedOrders = true) (hok : flowOk3 ops = true) (h : Rest P Q ops 0 (Go.Q.fr N r) { w with drawn := w.drawn + 1 }) : (Code.region id ops.toArray true).wp P Q (Go.Q.fr N r) w := by
  refine wp_region_any hm (h hok _ _ (by simp) (fun i hi => absurd hi (Nat.not_lt_zero _)) (fun i _ => ?_) (by simp))
  by_cases h : i < ops.length <;> simp [h]
theorem Rest.end {P : Program} {Q : Exit → Act → World → Prop} {ops : List Oper} {a : Act} {w : World} (h : Q .normal a w) : Rest P Q ops ops.length a w := fun _ fuel listed hsz hall _ _ => by
  refine wpAny_done ?_ h fuel
  rw [List.eq_nil_iff_forall_not_mem]
  intro i hi
  obtain ⟨h0, o, ho, _⟩ := mem_ready.1 hi
  have hlt : i < ops.length := by simpa using (Array.getElem?_eq_some_iff.1 ho).1
  have h1 := hall i hlt
  have hs : i < listed.size := by omega
  simp [hs] at h0 h1; rw [h0] at h1; cases h1
theorem Rest.done {P : Program} {Q : Exit → Act → World → Prop} {ops : List Oper} {a : Act} {w : World} {m : Nat} (hm : m = ops.length) (h : Q .normal a w) : Rest P Q ops m a w := hm ▸ Rest.end h
theorem Rest.one {P : Program} {Q : Exit → Act → World → Prop} {ops : List Oper} {N : Nat} {r : Nat → Value} {w : World} {k : Nat} {o : Oper} (ho : ops[k]? = some o) (hb : barB ops (k + 1) = true)
    (h : GOK P ops o N r w fun v w'' => Rest P Q ops (k + 1) ((Go.Q.fr N r).put o.dst v) w'') : Rest P Q ops k (Go.Q.fr N r) w := by
  intro hok fuel listed hsz hall hnot hf
  have hlk : k < ops.length := (List.getElem?_eq_some_iff.1 ho).1
  obtain ⟨f, rfl⟩ : ∃ f, fuel = f + 1 := ⟨fuel - 1, by omega⟩
  have hcl : ∀ i, listed.getD i false = true → ∀ d ∈ depsOf ops i, listed.getD d false = true := fun i hi d hd => by
    have hik : i < k := by
      rcases Nat.lt_or_ge i k with g | g
      · exact g
      · rw [hnot i g] at hi; cases hi
    have := (flowOk3_spec hok (List.getElem?_eq_getElem (show i < ops.length by omega))).1 d hd
    exact hall d (by omega)
  have hkr : k ∈ Region.ready .any ops.toArray listed := by
    refine mem_ready.2 ⟨?_, ops[k], by simp [hlk], fun e he hb => ?_⟩
    · have h1 := hnot k (Nat.le_refl _)
      have hs : k < listed.size := by omega
      simp [hs] at h1 ⊢; exact h1
    · have hd := mem_depsOf (List.getElem?_eq_getElem hlk) he hb
      exact hall _ ((flowOk3_spec hok (List.getElem?_eq_getElem hlk)).1 _ hd)
  refine ⟨fun hr => (by rw [hr] at hkr; cases hkr), fun i hi => ?_⟩
  obtain ⟨h0, o', ho', hdone⟩ := mem_ready.1 hi
  have hlt : i < ops.length := by simpa using (Array.getElem?_eq_some_iff.1 ho').1
  have hli : listed.getD i false = false := by
    have hs : i < listed.size := by omega
    simp [hs] at h0 ⊢; exact h0
  have hdeps : ∀ d ∈ depsOf ops i, listed.getD d false = true := by
    intro d hd
    unfold depsOf at hd
    rw [show ops[i]? = some o' by simpa using ho'] at hd
    obtain ⟨e, he, heq⟩ := List.mem_filterMap.1 hd
    split at heq
    · cases heq; exact hdone e (by simpa using he) (by assumption)
    · cases heq
  have hik : i = k := by
    rcases Nat.lt_trichotomy i k with g | g | g
    · rw [hall i g] at hli; cases hli
    · exact g
    · have := anc_trans3 hok hcl _ i k (barB_spec hb i k (by omega) hlt (by omega)) hdeps
      rw [hnot k (Nat.le_refl _)] at this; cases this
  subst hik
  refine GOK.wp (by simpa using ho) h fun v w'' hk => hk hok f _ (by simpa using hsz) (fun j hj => ?_) (fun j hj => ?_) (by omega)
  · by_cases e : i = j
    · subst e
      have : i < listed.size := by omega
      simp [this]
    · rw [getD_set_ne false e]; exact hall j (by omega)
  · rw [getD_set_ne false (show i ≠ j by omega)]; exact hnot j (by omega)
section
variable {P : Program} {Q : Exit → Act → World → Prop} {ops : List Oper} {N : Nat} {r : Nat → Value} {w : World}
theorem r_op {d : Nat} {op : Op} {T : TypeId} {pos : String} {after : Array Edge} (k : Nat) (ho : ops[k]? = some ⟨some d, op, T, pos, after, none⟩) (hb : barB ops (k + 1) = true)
    (h : OK P ⟨some d, op, T, pos, after, none⟩ (ev N r) w fun v w' => Rest P Q ops (k + 1) (Go.Q.fr N (upd r d v)) w') : Rest P Q ops k (Go.Q.fr N r) w :=
  Rest.one ho hb (GOK.free rfl (h.mono fun v w' hk => by rw [fr_put]; exact hk))
theorem r_eff {op : Op} {T : TypeId} {pos : String} {after : Array Edge} (k : Nat) (ho : ops[k]? = some ⟨none, op, T, pos, after, none⟩) (hb : barB ops (k + 1) = true)
    (h : OK P ⟨none, op, T, pos, after, none⟩ (ev N r) w fun _ w' => Rest P Q ops (k + 1) (Go.Q.fr N r) w') : Rest P Q ops k (Go.Q.fr N r) w :=
  Rest.one ho hb (GOK.free rfl (h.mono fun v w' hk => by rw [fr_put_none]; exact hk))
theorem r_on {d : Nat} {op : Op} {T : TypeId} {pos : String} {after : Array Edge} {g : Nat} {b : Bool} (k : Nat) (ho : ops[k]? = some ⟨some d, op, T, pos, after, some (g, b)⟩) (hb : barB ops (k + 1) = true) (t : Nat) (hgt : dstOf ops g = some t) (hv : ev N r (.tmp t) = .bool b)
    (h : OK P ⟨some d, op, T, pos, after, some (g, b)⟩ (ev N r) w fun v w' => Rest P Q ops (k + 1) (Go.Q.fr N (upd r d v)) w') : Rest P Q ops k (Go.Q.fr N r) w :=
  Rest.one ho hb (GOK.on rfl hgt hv (h.mono fun v w' hk => by rw [fr_put]; exact hk))
theorem r_off {d : Nat} {op : Op} {T : TypeId} {pos : String} {after : Array Edge} {g : Nat} {b b' : Bool} (k : Nat) (ho : ops[k]? = some ⟨some d, op, T, pos, after, some (g, b)⟩) (hb : barB ops (k + 1) = true) (t : Nat) (hgt : dstOf ops g = some t) (hv : ev N r (.tmp t) = .bool b') (hne : (b' == b) = false)
    (h : Rest P Q ops (k + 1) (Go.Q.fr N (upd r d undef)) w) : Rest P Q ops k (Go.Q.fr N r) w :=
  Rest.one ho hb (GOK.off rfl hgt hv hne (by rw [fr_put]; exact h))
theorem r_offu {d : Nat} {op : Op} {T : TypeId} {pos : String} {after : Array Edge} {g : Nat} {b : Bool} (k : Nat) (ho : ops[k]? = some ⟨some d, op, T, pos, after, some (g, b)⟩) (hb : barB ops (k + 1) = true) (t : Nat) (hgt : dstOf ops g = some t) (hv : ev N r (.tmp t) = undef)
    (h : Rest P Q ops (k + 1) (Go.Q.fr N (upd r d undef)) w) : Rest P Q ops k (Go.Q.fr N r) w :=
  Rest.one ho hb (GOK.offu rfl hgt hv (by rw [fr_put]; exact h))
end
theorem Rest.phase {P : Program} {Q : Exit → Act → World → Prop} {E w : World} {N : Nat} {r : Nat → Value} {ops : List Oper} (F : List (List Hp)) (C : Nat → List Hp) (Tp : Nat → Value → List Hp → (Nat → Value) → Prop)
    (m0 m : Nat) (hml : m ≤ ops.length) (hm0 : m0 ≤ m) (hbar : barB ops m = true) (H : Has E w (F ++ (List.range ops.length).map C))
    (done0 : ∀ i o, i < m0 → ops[i]? = some o → Tp i (slot r o) (C i) (msk ops i (vsOf ops r)))
    (step : ∀ i o, m0 ≤ i → i < m → ops[i]? = some o → ∀ r' w' G hs, Turn3 E ops F C Tp N r i r' w' G hs → GOK P ops o N r' w' fun v w'' => ∃ h', Tp i (match o.dst with | some _ => v | none => undef) h' (msk ops i (vsOf ops r')) ∧ Has E w'' (h' :: G))
    (fin : ∀ (vs : Nat → Value) (hs : Nat → List Hp) w', (∀ i o, i < m → ops[i]? = some o → Tp i (vs i) (hs i) (msk ops i vs)) → (∀ i, m ≤ i → i < ops.length → hs i = C i) → Has E w' (F ++ (List.range ops.length).map hs) → Rest P Q ops m (Go.Q.fr N (puts vs (ops.take m) 0 r)) w') :
    Rest P Q ops m0 (Go.Q.fr N r) w := by
  intro hok fuel0 listed0 hsz0 hall0 hnot0 hf0
  have hsq := barB_spec hbar
  -- the state while some are done
  let Inv : Array Bool → Act → World → Prop := fun listed a w => listed.size = ops.length ∧ (∀ i, i < m0 → listed.getD i false = true) ∧ (∀ i, m ≤ i → listed.getD i false = false) ∧ (∀ i, listed.getD i false = true → ∀ d ∈ depsOf ops i, listed.getD d false = true) ∧
    ∃ r' hs, a = Go.Q.fr N r' ∧ Has E w (F ++ (List.range ops.length).map hs) ∧ (∀ i o, ops[i]? = some o → if listed.getD i false = true then o.dst.isSome = true ∧ Tp i (slot r' o) (hs i) (msk ops i (vsOf ops r')) ∨ o.dst = none ∧ Tp i undef (hs i) (msk ops i (vsOf ops r')) else hs i = C i) ∧
    (∀ t, (∀ i o, ops[i]? = some o → o.dst = some t → listed.getD i false = false) → r' t = r t)
  have key : ∀ fuel listed a w, Inv listed a w → (List.range ops.length).countP (fun i => !listed.getD i false) ≤ fuel → wpAny P .any ops.toArray Q fuel listed a w := by
    have ready0 : ∀ listed : Array Bool, listed.size = ops.length → Region.ready .any ops.toArray listed = [] → ∀ i, i < ops.length → listed.getD i false = true := by
      intro listed hsz hr i
      induction i using Nat.strongRecOn with
      | _ i ih =>
        intro hi
        cases hl : listed.getD i false with
        | true => rfl
        | false =>
          exfalso
          obtain ⟨o, ho⟩ : ∃ o, ops[i]? = some o := ⟨_, List.getElem?_eq_getElem hi⟩
          have : i ∈ Region.ready .any ops.toArray listed := by
            refine mem_ready.2 ⟨?_, o, by simpa using ho, fun e he hb => ?_⟩
            · have : i < listed.size := by omega
              simp [this] at hl ⊢; exact hl
            · have hd := mem_depsOf ho he hb
              have hlt := (flowOk3_spec hok ho).1 _ hd
              exact ih _ hlt (by omega)
          rw [hr] at this; cases this
    have fin' : ∀ fuel listed a w, Inv listed a w → (List.range ops.length).countP (fun i => !listed.getD i false) ≤ fuel → (∀ i, i < m → listed.getD i false = true) → wpAny P .any ops.toArray Q fuel listed a w := by
      rintro fuel listed a w ⟨hsz, hpre, hnot, _, r', hs, rfl, hH, hT, hold⟩ hc hall
      let vs : Nat → Value := vsOf ops r'
      have htk : ∀ j o', (ops.take m)[j]? = some o' → ops[j]? = some o' ∧ j < m := fun j o' hj => by
        rw [List.getElem?_take] at hj
        split at hj
        · exact ⟨hj, by assumption⟩
        · cases hj
      have e : Go.Q.fr N r' = Go.Q.fr N (puts vs (ops.take m) 0 r) := by
        refine fr_congr fun t _ => ?_
        by_cases hex : ∃ (i : Nat) (o : Oper), (ops.take m)[i]? = some o ∧ o.dst = some t
        · obtain ⟨i, o, ho, hd⟩ := hex
          rw [puts_new vs (ops.take m) 0 i r o t ho hd (fun j o' hj hne => (flowOk3_spec hok (htk i o ho).1).2 j o' t (htk j o' hj).1 hne hd)]
          simp [vs, vsOf, (htk i o ho).1, slot, hd]
        · rw [puts_old vs (ops.take m) 0 r t (fun o ho hd => by obtain ⟨j, hj⟩ := List.getElem?_of_mem ho; exact hex ⟨j, o, hj, hd⟩)]
          refine hold t (fun i o ho hd => ?_)
          rcases Nat.lt_or_ge i m with g | g
          · exact absurd ⟨i, o, by rw [List.getElem?_take, if_pos g]; exact ho, hd⟩ hex
          · exact hnot i g
      have hw := fin vs hs w (fun i o hi ho => by
        have := hT i o ho
        rw [if_pos (hall i hi)] at this
        have hvs : vs i = slot r' o := by simp only [vs, vsOf, ho]
        rw [hvs]
        rcases this with ⟨_, h⟩ | ⟨hn, h⟩
        · exact h
        · unfold slot; rw [hn]; exact h) (fun i hi hl => by
        have := hT i _ (List.getElem?_eq_getElem hl)
        rw [if_neg (by rw [hnot i hi]; simp)] at this; exact this) hH
      rw [← e] at hw
      have hcount : ops.length - m ≤ (List.range ops.length).countP (fun i => !listed.getD i false) := by
        have : List.range ops.length = List.range m ++ List.range' m (ops.length - m) := by
          have := List.range'_append_1 (s := 0) (m := m) (n := ops.length - m)
          rw [Nat.zero_add] at this
          rw [List.range_eq_range', List.range_eq_range', this]; congr 1; omega
        rw [this, List.countP_append]
        have h2 : (List.range' m (ops.length - m)).countP (fun i => !listed.getD i false) = (List.range' m (ops.length - m)).length := by
          rw [List.countP_eq_length]
          intro i hi
          rw [hnot i (by have := List.mem_range'_1.1 hi; omega)]; rfl
        rw [h2, List.length_range']; omega
      exact hw hok fuel listed hsz hall hnot (by omega)
    intro fuel
    induction fuel with
    | zero =>
      intro listed a w hI hc
      refine fin' 0 listed a w hI hc fun i hi => ?_
      cases hl : listed.getD i false with
      | true => rfl
      | false =>
        have hp : 0 < (List.range ops.length).countP (fun i => !listed.getD i false) := List.countP_pos_iff.2 ⟨i, List.mem_range.2 (by omega), by rw [hl]; rfl⟩
        omega
    | succ fuel ih =>
      intro listed a w hI hc
      by_cases hall : ∀ i, i < m → listed.getD i false = true
      · exact fin' _ listed a w hI hc hall
      refine ⟨fun hr => absurd (fun i hi => ready0 listed hI.1 hr i (by omega)) hall, fun i hi => ?_⟩
      obtain ⟨hsz, hpre, hnot, hcl, r', hs, rfl, hH, hT, hold⟩ := hI
      obtain ⟨h0, o, ho', hdone⟩ := mem_ready.1 hi
      have ho : ops[i]? = some o := by simpa using ho'
      have hlt : i < ops.length := (List.getElem?_eq_some_iff.1 ho).1
      have hli : listed.getD i false = false := by
        have hs : i < listed.size := by omega
        simp [hs] at h0 ⊢; exact h0
      obtain ⟨hdlt, hdist⟩ := flowOk3_spec hok ho
      have hdeps : ∀ d ∈ depsOf ops i, listed.getD d false = true := by
        intro d hd
        unfold depsOf at hd
        rw [ho] at hd
        obtain ⟨e, he, heq⟩ := List.mem_filterMap.1 hd
        split at heq
        · cases heq; exact hdone e (by simpa using he) (by assumption)
        · cases heq
      have him : i < m := by
        rcases Nat.lt_or_ge i m with g | g
        · exact g
        · exact absurd (fun j hj => anc_trans3 hok hcl _ i j (hsq i j g hlt hj) hdeps) hall
      -- the heaplets: the one at i in front
      let G : List (List Hp) := F ++ ((List.range i).map hs ++ (List.range' (i + 1) (ops.length - (i + 1))).map hs)
      have hsplit : List.range ops.length = List.range i ++ i :: List.range' (i + 1) (ops.length - (i + 1)) := by
        rw [List.range_eq_range', List.range_eq_range', show i :: List.range' (i + 1) (ops.length - (i + 1)) = List.range' i (ops.length - i) from by
          rw [show ops.length - i = (ops.length - (i + 1)) + 1 by omega, List.range'_succ]]
        have := List.range'_append_1 (s := 0) (m := i) (n := ops.length - i)
        rw [Nat.zero_add] at this
        rw [this]; congr 1; omega
      have mapsplit : ∀ f : Nat → List Hp, (List.range ops.length).map f = (List.range i).map f ++ f i :: (List.range' (i + 1) (ops.length - (i + 1))).map f := by
        intro f; rw [hsplit]; simp
      have hperm : ∀ f : Nat → List Hp, (F ++ (List.range ops.length).map f).Perm (f i :: (F ++ ((List.range i).map f ++ (List.range' (i + 1) (ops.length - (i + 1))).map f))) := by
        intro f
        rw [mapsplit f, ← List.append_assoc, ← List.append_assoc]
        exact List.perm_middle
      have hhi : hs i = C i := by have := hT i o ho; rw [if_neg (by rw [hli]; simp)] at this; exact this
      have inG : ∀ j, j < ops.length → j ≠ i → hs j ∈ G := by
        intro j hj hne
        refine List.mem_append_right _ ?_
        rcases Nat.lt_or_gt_of_ne hne with h | h
        · exact List.mem_append_left _ (List.mem_map.2 ⟨j, List.mem_range.2 h, rfl⟩)
        · exact List.mem_append_right _ (List.mem_map.2 ⟨j, by rw [List.mem_range'_1]; omega, rfl⟩)
      have subG : ∀ s ∈ G, s ⊆ G.flatten := fun s hs' x hx => List.mem_flatten.2 ⟨s, hs', hx⟩
      have ancNe : ∀ j, listed.getD j false = true → j ≠ i := fun j hj e => by rw [e, hli] at hj; cases hj
      have turn : Turn3 E ops F C Tp N r i r' w G hs := by
        refine ⟨?_, fun s hs' => subG s (List.mem_append_left _ hs'), fun j oj hoj hanc => ?_, fun j hanc => ?_, fun t ht => ?_, fun j oj hoj hne => ?_⟩
        · rw [← hhi]; exact hH.perm (hperm hs).symm
        · have hl := anc_trans3 hok hcl _ i j hanc hdeps
          refine ⟨?_, subG _ (inG j (List.getElem?_eq_some_iff.1 hoj).1 (ancNe j hl))⟩
          have := hT j oj hoj
          rw [if_pos hl] at this
          rcases this with ⟨_, h⟩ | ⟨hn, h⟩
          · exact h
          · unfold slot; rw [hn]; exact h
        · cases hj : ops[j]? with
          | none =>
            exfalso
            unfold anc at hanc
            split at hanc
            · cases hanc
            · simp [depsOf, hj] at hanc
          | some oj =>
            have hnl : listed.getD j false = false := by
              cases hl : listed.getD j false with
              | false => rfl
              | true =>
                have := anc_trans3 hok hcl _ j i hanc (hcl j hl)
                rw [hli] at this; cases this
            have hjl := (List.getElem?_eq_some_iff.1 hj).1
            have hne : j ≠ i := by
              rintro rfl
              have := anc_trans3 hok hcl _ j j hanc hdeps
              rw [hli] at this; cases this
            have := hT j oj hj
            rw [if_neg (by rw [hnl]; simp)] at this
            rw [← this]; exact subG _ (inG j hjl hne)
        · refine hold t (fun j oj hoj hd => ?_)
          rcases ht j oj hoj hd with rfl | hanc
          · exact hli
          · cases hl : listed.getD j false with
            | false => rfl
            | true =>
              have := anc_trans3 hok hcl _ j i hanc (hcl j hl)
              rw [hli] at this; cases this
        · have hG := subG _ (inG j (List.getElem?_eq_some_iff.1 hoj).1 hne)
          have := hT j oj hoj
          cases hl : listed.getD j false with
          | true =>
            rw [if_pos hl] at this
            rcases this with ⟨_, h⟩ | ⟨_, h⟩
            · exact .inr ⟨⟨_, _, h⟩, hG⟩
            · exact .inr ⟨⟨_, _, h⟩, hG⟩
          | false =>
            rw [if_neg (by rw [hl]; simp)] at this
            rw [← this]; exact .inl hG
      have hi0 : m0 ≤ i := by
        rcases Nat.lt_or_ge i m0 with g | g
        · rw [hpre i g] at hli; cases hli
        · exact g
      have hstep := step i o hi0 him ho r' w G hs turn
      have hnext : ∀ (v : Value) (w'' : World), (∃ h', Tp i (match o.dst with | some _ => v | none => undef) h' (msk ops i (vsOf ops r')) ∧ Has E w'' (h' :: G)) →
          wpAny P .any ops.toArray Q fuel (listed.setIfInBounds i true) ((Go.Q.fr N r').put o.dst v) w'' := ?_
      · exact GOK.wp ho' hstep hnext
      rintro v w'' ⟨h', hTi, hH'⟩
      refine ih _ _ _ ⟨by simpa using hsz, fun j hj => by rw [getD_set_ne false (show i ≠ j by omega)]; exact hpre j hj, fun j hj => by rw [getD_set_ne false (show i ≠ j by omega)]; exact hnot j hj, ?_, ?_⟩ ?_
      · intro j hj d hd
        by_cases hji : i = j
        · subst hji; exact getD_set_true (hdeps d hd)
        · rw [getD_set_ne false hji] at hj
          exact getD_set_true (hcl j hj d hd)
      · let hs' : Nat → List Hp := fun j => if j = i then h' else hs j
        have hsG : F ++ ((List.range i).map hs' ++ (List.range' (i + 1) (ops.length - (i + 1))).map hs') = G := by
          have e1 : (List.range i).map hs' = (List.range i).map hs := List.map_congr_left fun j hj => by
            have := List.mem_range.1 hj; simp only [hs']; rw [if_neg (by omega)]
          have e2 : (List.range' (i + 1) (ops.length - (i + 1))).map hs' = (List.range' (i + 1) (ops.length - (i + 1))).map hs := List.map_congr_left fun j hj => by
            have := List.mem_range'_1.1 hj; simp only [hs']; rw [if_neg (by omega)]
          rw [e1, e2]
        have hH2 : Has E w'' (F ++ (List.range ops.length).map hs') := by
          refine hH'.perm ((hperm hs').trans ?_)
          rw [hsG]
          simp [hs']
        have hset : ∀ j, j ≠ i → (listed.setIfInBounds i true).getD j false = listed.getD j false := fun j hj => getD_set_ne false (Ne.symm hj)
        have hseti : (listed.setIfInBounds i true).getD i false = true := by
          have : i < listed.size := by omega
          simp [this]
        cases hd : o.dst with
        | none =>
          refine ⟨r', hs', by rw [fr_put_none], hH2, fun j oj hoj => ?_, fun t ht => hold t fun j oj hoj hdj => ?_⟩
          · by_cases hji : j = i
            · subst hji
              rw [ho] at hoj; cases hoj
              rw [if_pos hseti]
              rw [hd] at hTi
              exact .inr ⟨hd, by simpa [hs'] using hTi⟩
            · rw [hset j hji]
              have := hT j oj hoj
              simpa [hs', hji] using this
          · by_cases hji : j = i
            · subst hji; exact hli
            · have := ht j oj hoj hdj; rwa [hset j hji] at this
        | some d =>
          refine ⟨upd r' d v, hs', by rw [fr_put], hH2, fun j oj hoj => ?_, fun t ht => ?_⟩
          · by_cases hji : j = i
            · subst hji
              rw [ho] at hoj; cases hoj
              rw [if_pos hseti]
              refine .inl ⟨by rw [hd]; rfl, ?_⟩
              rw [hd] at hTi
              rw [msk_upd3 hok ho hd (fun k hk => ancNe k (anc_trans3 hok hcl _ j k hk hdeps))]
              simp only [slot, hd, upd_same, hs', if_true]; exact hTi
            · rw [hset j hji]
              have := hT j oj hoj
              have hne : oj.dst ≠ some d := hdist j oj d hoj hji hd
              have hsl : slot (upd r' d v) oj = slot r' oj := by
                unfold slot
                cases hdj : oj.dst with
                | none => rfl
                | some t => exact upd_ne _ _ (fun e => hne (by rw [hdj, e]))
              cases hlj : listed.getD j false with
              | true =>
                rw [msk_upd3 hok ho hd (fun k hk => ancNe k (anc_trans3 hok hcl _ j k hk (hcl j hlj)))]
                simpa [hs', hji, hsl, hlj] using this
              | false => simpa [hs', hji, hlj] using this
          · have hne : t ≠ d := by
              rintro rfl
              have := ht i o ho hd
              rw [hseti] at this; cases this
            rw [upd_ne _ _ hne]
            refine hold t fun j oj hoj hdj => ?_
            by_cases hji : j = i
            · subst hji; exact hli
            · have := ht j oj hoj hdj; rwa [hset j hji] at this
      · have : (List.range ops.length).countP (fun j => !(listed.setIfInBounds i true).getD j false) < (List.range ops.length).countP (fun j => !listed.getD j false) := by
          have hset : ∀ j, j ≠ i → (listed.setIfInBounds i true).getD j false = listed.getD j false := fun j hj => getD_set_ne false (Ne.symm hj)
          have hseti : (listed.setIfInBounds i true).getD i false = true := by
            have : i < listed.size := by omega
            simp [this]
          rw [hsplit, List.countP_append, List.countP_cons, List.countP_append, List.countP_cons, hseti, hli]
          have e1 : (List.range i).countP (fun j => !(listed.setIfInBounds i true).getD j false) = (List.range i).countP (fun j => !listed.getD j false) :=
            List.countP_congr fun j hj => by have := List.mem_range.1 hj; rw [hset j (by omega)]
          have e2 : (List.range' (i + 1) (ops.length - (i + 1))).countP (fun j => !(listed.setIfInBounds i true).getD j false) = (List.range' (i + 1) (ops.length - (i + 1))).countP (fun j => !listed.getD j false) :=
            List.countP_congr fun j hj => by have := List.mem_range'_1.1 hj; rw [hset j (by omega)]
          rw [e1, e2]; simp
        omega
  have h0 : Inv listed0 (Go.Q.fr N r) w := by
    refine ⟨hsz0, hall0, fun i hi => hnot0 i (by omega), fun i hi d hd => ?_, r, C, rfl, H, fun i o ho => ?_, fun _ _ => rfl⟩
    · have hi0 : i < m0 := by
        rcases Nat.lt_or_ge i m0 with g | g
        · exact g
        · rw [hnot0 i g] at hi; cases hi
      have := (flowOk3_spec hok (List.getElem?_eq_getElem (show i < ops.length by omega))).1 d hd
      exact hall0 d (by omega)
    · rcases Nat.lt_or_ge i m0 with g | g
      · rw [if_pos (hall0 i g)]
        have hd := done0 i o g ho
        cases hdd : o.dst with
        | none => exact .inr ⟨rfl, by unfold slot at hd; rw [hdd] at hd; exact hd⟩
        | some t => exact .inl ⟨rfl, hd⟩
      · rw [if_neg (by rw [hnot0 i g]; simp)]
  refine key _ _ _ _ h0 ?_
  have e0 : List.range ops.length = List.range m0 ++ List.range' m0 (ops.length - m0) := by
    have := List.range'_append_1 (s := 0) (m := m0) (n := ops.length - m0)
    rw [Nat.zero_add] at this
    rw [List.range_eq_range', List.range_eq_range', this]; congr 1; omega
  rw [e0, List.countP_append]
  have e1 : (List.range m0).countP (fun i => !listed0.getD i false) = 0 := by
    rw [List.countP_eq_zero]
    intro i hi
    rw [hall0 i (List.mem_range.1 hi)]; simp
  have e2 : (List.range' m0 (ops.length - m0)).countP (fun i => !listed0.getD i false) ≤ ops.length - m0 := Nat.le_trans List.countP_le_length (by rw [List.length_range']; exact Nat.le_refl _)
  omega
end Go.Q
namespace Go.Q
section
variable {P : Program} {ops : List Oper} {Q : Exit → Act → World → Prop}
/-- One operation, wanted or not. -/
def okOp (P : Program) (ops : List Oper) (i : Nat) (K : Act → World → Prop) (a : Act) (w : World) : Prop :=
  ∃ o, ops[i]? = some o ∧ ((Region.wanted o (yielded ops.toArray a.tmps) = true ∧ OK P o a.eval w fun v w' => K (a.put o.dst v) w') ∨ (Region.wanted o (yielded ops.toArray a.tmps) = false ∧ K (a.put o.dst undef) w))
theorem okOp.mono {i : Nat} {K K' : Act → World → Prop} {a : Act} {w : World} (h : okOp P ops i K a w) (hk : ∀ a w, K a w → K' a w) : okOp P ops i K' a w := by
  obtain ⟨o, ho, ⟨h1, h2⟩ | ⟨h1, h2⟩⟩ := h
  · exact ⟨o, ho, .inl ⟨h1, h2.mono fun v w' => hk _ _⟩⟩
  · exact ⟨o, ho, .inr ⟨h1, hk _ _ h2⟩⟩
theorem okOp.wp {i : Nat} {K : Act → World → Prop} {a : Act} {w : World} (h : okOp P ops i K a w) : wpOp P ops.toArray Q i K a w := by
  obtain ⟨o, ho, h⟩ := h
  unfold wpOp
  rw [show ops.toArray[i]? = some o by simpa using ho]
  rcases h with ⟨h1, h2⟩ | ⟨h1, h2⟩
  · simp only [h1, if_true]; exact .inl h2.wp
  · simp only [h1, Bool.false_eq_true, if_false]; exact h2
def allB (hi : Nat) (l : Array Bool) : Bool := (List.range hi).all fun i => l.getD i false
/-- All orders of the phase that ends ahead of hi, n operations are left; I holds all the way. -/
def anyI (P : Program) (ops : List Oper) (hi : Nat) (K : Act → World → Prop) (I : World → Prop) : Nat → Array Bool → Act → World → Prop
  | 0, l, a, w => I w ∧ allB hi l = true ∧ K a w
  | n + 1, l, a, w => I w ∧ allB hi l = false ∧ ∀ i ∈ Region.ready .any ops.toArray l, i < hi → okOp P ops i (anyI P ops hi K I n (l.setIfInBounds i true)) a w
theorem anyI.inv {hi : Nat} {K : Act → World → Prop} {I : World → Prop} : ∀ {n : Nat} {l : Array Bool} {a : Act} {w : World}, anyI P ops hi K I n l a w → I w
  | 0, _, _, _, h => h.1
  | _ + 1, _, _, _, h => h.1
/-- It gives this value wherever I holds, and changes nothing. -/
def YI (P : Program) (ops : List Oper) (o : Oper) (v : Value) (a : Act) (I : World → Prop) : Prop :=
  (Region.wanted o (yielded ops.toArray a.tmps) = true ∧ ∀ w, I w → OK P o a.eval w fun v' w' => v' = v ∧ w' = w) ∨ (Region.wanted o (yielded ops.toArray a.tmps) = false ∧ v = undef)
theorem OK.congr {o : Oper} {ρ ρ' : Operand → Value} {w : World} {K : Value → World → Prop} (h : execOp ρ' o = execOp ρ o) (k : OK P o ρ w K) : OK P o ρ' w K := by
  unfold OK at *; rw [h]; exact k
theorem YI.same {o : Oper} {v : Value} {a a' : Act} {I : World → Prop} (h : YI P ops o v a I) (he : execOp a'.eval o = execOp a.eval o) (hw : Region.wanted o (yielded ops.toArray a'.tmps) = Region.wanted o (yielded ops.toArray a.tmps)) : YI P ops o v a' I := by
  unfold YI at *
  rw [hw]
  exact h.imp (fun g => ⟨g.1, fun w hI => (g.2 w hI).congr he⟩) id
theorem YI.ok {i : Nat} {o : Oper} {v : Value} {a : Act} {I : World → Prop} {K : Act → World → Prop} {w : World} (hi : ops[i]? = some o) (h : YI P ops o v a I) (hI : I w) (hk : K (a.put o.dst v) w) : okOp P ops i K a w := by
  refine ⟨o, hi, ?_⟩
  rcases h with ⟨h1, h2⟩ | ⟨h1, rfl⟩
  · exact .inl ⟨h1, (h2 w hI).mono fun v' w' ⟨e1, e2⟩ => by rw [e1, e2]; exact hk⟩
  · exact .inr ⟨h1, hk⟩
theorem okOp_put {j : Nat} {oi oj : Oper} {v : Value} {I : World → Prop} (hj : ops[j]? = some oj) (hap : oi.apart ops.toArray oj = true) (hsi : ∀ cs b, oi.op ≠ .select cs b) (hsj : ∀ cs b, oj.op ≠ .select cs b)
    {K : Act → World → Prop} {a : Act} {w : World} (hy : YI P ops oi v a I) (h : okOp P ops j K (a.put oi.dst v) w) : okOp P ops j (fun a' w' => YI P ops oi v a' I ∧ K (a'.put oi.dst v) w') a w := by
  obtain ⟨h1, h2, h3⟩ := Oper.apart_spec hap
  have keep : ∀ u, YI P ops oi v (a.put oj.dst u) I := fun u => hy.same (execOp_put oi hsi a oj.dst u h3) (wanted_put oi a oj.dst u h3)
  obtain ⟨o, ho, h⟩ := h
  obtain rfl : o = oj := Option.some.inj (ho.symm.trans hj)
  refine ⟨o, ho, ?_⟩
  rw [wanted_put o a oi.dst v h1] at h
  rcases h with ⟨g1, g2⟩ | ⟨g1, g2⟩
  · refine .inl ⟨g1, OK.congr (execOp_put o hsj a oi.dst v h1).symm (g2.mono fun u w' hk => ⟨keep u, ?_⟩)⟩
    rw [← Act.put_comm a v u h2]; exact hk
  · refine .inr ⟨g1, keep _, ?_⟩
    rw [← Act.put_comm a v undef h2]; exact g2
theorem ready_un {i : Nat} {l : Array Bool} (h : i ∈ Region.ready .any ops.toArray l) : l.getD i false = false ∧ i < l.size := by
  have h0 := (mem_ready.1 h).1
  rcases Nat.lt_or_ge i l.size with g | g
  · refine ⟨?_, g⟩
    simp [g] at h0 ⊢; exact h0
  · simp [Array.getElem?_eq_none g] at h0
theorem allB_un {hi i : Nat} {l : Array Bool} (h : l.getD i false = false) (hlt : i < hi) : allB hi l = false := by
  cases e : allB hi l with
  | false => rfl
  | true =>
    unfold allB at e
    rw [List.all_eq_true] at e
    have := e i (List.mem_range.2 hlt)
    rw [h] at this; cases this
theorem anyI_first {hi i : Nat} {oi : Oper} {v : Value} {K : Act → World → Prop} {I : World → Prop} (hoi : ops[i]? = some oi) (hlt : i < hi) (hsel : ∀ (j : Nat) (o : Oper) cs b, ops[j]? = some o → o.op ≠ .select cs b) :
    ∀ (n : Nat) (l : Array Bool) (a : Act) (w : World),
      (∀ j oj, ops[j]? = some oj → j ≠ i → l.getD j true = false → (∀ e ∈ oj.after, Region.binds .any e = true → e.on ≠ i) → oi.apart ops.toArray oj = true) →
      i ∈ Region.ready .any ops.toArray l → YI P ops oi v a I → anyI P ops hi K I n (l.setIfInBounds i true) (a.put oi.dst v) w → anyI P ops hi K I (n + 1) l a w := by
  intro n
  induction n with
  | zero =>
    intro l a w _ hr hy H
    have hu := ready_un hr
    refine ⟨H.inv, allB_un hu.1 hlt, fun j hj hjh => ?_⟩
    by_cases hji : j = i
    · subst hji; exact hy.ok hoi H.inv H
    · have h2 := ready_un (ready_mono hj hji)
      have := allB_un h2.1 hjh
      rw [H.2.1] at this; cases this
  | succ n ih =>
    intro l a w hfree hr hy H
    have hu := ready_un hr
    refine ⟨H.inv, allB_un hu.1 hlt, fun j hj hjh => ?_⟩
    by_cases hji : j = i
    · subst hji; exact hy.ok hoi H.inv H
    · have h1 := H.2.2 j (ready_mono hj hji) hjh
      obtain ⟨hjun, oj, hoj, hall⟩ := mem_ready.1 hj
      have hoj' : ops[j]? = some oj := by simpa using hoj
      have hnot : ∀ e ∈ oj.after, Region.binds .any e = true → e.on ≠ i := fun e he hb heq => by
        have h1 := hall e he hb
        rw [heq, hu.1] at h1; cases h1
      have h2 := okOp_put hoj' (hfree j oj hoj' hji hjun hnot) (fun cs b => hsel i oi cs b hoi) (fun cs b => hsel j oj cs b hoj') hy h1
      have hfree' : ∀ k ok, ops[k]? = some ok → k ≠ i → (l.setIfInBounds j true).getD k true = false → (∀ e ∈ ok.after, Region.binds .any e = true → e.on ≠ i) → oi.apart ops.toArray ok = true := fun k ok hk hki hun hno => by
        refine hfree k ok hk hki ?_ hno
        by_cases hjk : j = k
        · subst hjk; exact hjun
        · rw [getD_set_ne true hjk] at hun; exact hun
      refine h2.mono fun a' w' h3 => ih (l.setIfInBounds j true) a' w' hfree' (ready_mono hr (Ne.symm hji)) h3.1 ?_
      rw [Array.setIfInBounds_comm _ _ hji]
      exact h3.2
theorem anyI_wp {hi : Nat} {I : World → Prop} (hok : flowOk3 ops = true) (hbar : barB ops hi = true) (hhi : hi ≤ ops.length) : ∀ (n fuel : Nat) (l : Array Bool) (a : Act) (w : World), l.size = ops.length → (∀ i, hi ≤ i → l.getD i false = false) →
    (∀ i, l.getD i false = true → ∀ d ∈ depsOf ops i, l.getD d false = true) → n + (ops.length - hi) ≤ fuel → anyI P ops hi (Rest P Q ops hi) I n l a w → wpAny P .any ops.toArray Q fuel l a w
  | 0, fuel, l, a, w, hsz, hnot, _, hf, h => by
    refine h.2.2 hok fuel l hsz (fun i hi' => ?_) hnot (by omega)
    have := h.2.1
    unfold allB at this
    rw [List.all_eq_true] at this
    exact this i (List.mem_range.2 hi')
  | n + 1, fuel, l, a, w, hsz, hnot, hcl, hf, h => by
    obtain ⟨f, rfl⟩ : ∃ f, fuel = f + 1 := ⟨fuel - 1, by omega⟩
    obtain ⟨_, hall, hr⟩ := h
    obtain ⟨m, hm, hum, hmin⟩ : ∃ m, m < hi ∧ l.getD m false = false ∧ ∀ j, j < m → l.getD j false = true := by
      unfold allB at hall
      rw [List.all_eq_false] at hall
      obtain ⟨x, hx, hxu⟩ := hall
      have hx' : x < hi := List.mem_range.1 hx
      have hxu' : l.getD x false = false := by simpa using hxu
      clear hxu hx
      induction x using Nat.strongRecOn with
      | ind x ih =>
        by_cases g : ∃ j, j < x ∧ l.getD j false = false
        · obtain ⟨j, hj, hju⟩ := g; exact ih j hj (by omega) hju
        · exact ⟨x, hx', hxu', fun j hj => by
            cases e : l.getD j false with
            | true => rfl
            | false => exact absurd ⟨j, hj, e⟩ g⟩
    have hml : m < ops.length := by omega
    have hmr : m ∈ Region.ready .any ops.toArray l := by
      refine mem_ready.2 ⟨?_, ops[m], by simp [hml], fun e he hb => ?_⟩
      · have hs : m < l.size := by omega
        simp [hs] at hum ⊢; exact hum
      · have hd := mem_depsOf (List.getElem?_eq_getElem hml) he hb
        exact hmin _ ((flowOk3_spec hok (List.getElem?_eq_getElem hml)).1 _ hd)
    refine ⟨fun g => (by rw [g] at hmr; cases hmr), fun i hi' => ?_⟩
    obtain ⟨hiu, his⟩ := ready_un hi'
    obtain ⟨_, o, ho, hdone⟩ := mem_ready.1 hi'
    have ho' : ops[i]? = some o := by simpa using ho
    have hdeps : ∀ d ∈ depsOf ops i, l.getD d false = true := by
      intro d hd
      unfold depsOf at hd
      rw [ho'] at hd
      obtain ⟨e, he, heq⟩ := List.mem_filterMap.1 hd
      split at heq
      · cases heq; exact hdone e (by simpa using he) (by assumption)
      · cases heq
    have hih : i < hi := by
      rcases Nat.lt_or_ge i hi with g | g
      · exact g
      · have := anc_trans3 hok hcl _ i m (barB_spec hbar i m g (by omega) hm) hdeps
        rw [hum] at this; cases this
    refine wpOp_mono ?_ (hr i hi' hih).wp
    intro a' w' h'
    refine anyI_wp hok hbar hhi n f _ a' w' (by simpa using hsz) (fun j hj => ?_) (fun j hj d hd => ?_) (by omega) h'
    · rw [getD_set_ne false (show i ≠ j by omega)]; exact hnot j hj
    · by_cases e : i = j
      · subst e; exact getD_set_true (hdeps d hd)
      · rw [getD_set_ne false e] at hj; exact getD_set_true (hcl j hj d hd)
def prefB (lo n : Nat) : Array Bool := (List.replicate lo true ++ List.replicate (n - lo) false).toArray
def freeB (ops : List Oper) (hi : Nat) (l : Array Bool) (k : Nat) : Bool := Region.noSelect ops.toArray && Region.free .any ops.toArray l k && (Region.ready .any ops.toArray l).contains k && decide (k < hi)
def onlyB (ops : List Oper) (hi : Nat) (l : Array Bool) (k : Nat) : Bool := (Region.ready .any ops.toArray l).all (fun i => i == k || decide (hi ≤ i)) && (Region.ready .any ops.toArray l).contains k && decide (k < hi)
theorem Rest.phaseA {N : Nat} {r : Nat → Value} {w : World} (I : World → Prop) (lo hi m : Nat) (hm : lo + m = hi) (hhi : decide (hi ≤ ops.length) = true) (hbar : barB ops hi = true)
    (h : anyI P ops hi (Rest P Q ops hi) I m (prefB lo ops.length) (Go.Q.fr N r) w) : Rest P Q ops lo (Go.Q.fr N r) w := by
  intro hok fuel listed hsz hall hnot hf
  have hhi := of_decide_eq_true hhi
  have e : listed = prefB lo ops.length := by
    unfold prefB
    apply Array.ext
    · simp [hsz]; omega
    · intro i h1 h2
      rcases Nat.lt_or_ge i lo with g | g
      · have := hall i g
        simp [h1] at this
        rw [this]; simp [List.getElem_append, g]
      · have := hnot i g
        simp [h1] at this
        rw [this]; simp [List.getElem_append, Nat.not_lt.2 g]
  subst e
  refine anyI_wp hok hbar hhi m fuel _ _ w hsz (fun i hi' => hnot i (by omega)) (fun i hi' d hd => ?_) (by omega) h
  have hil : i < lo := by
    rcases Nat.lt_or_ge i lo with g | g
    · exact g
    · rw [hnot i g] at hi'; cases hi'
  have := (flowOk3_spec hok (List.getElem?_eq_getElem (show i < ops.length by omega))).1 d hd
  exact hall d (by omega)
section
variable {hi : Nat} {K : Act → World → Prop} {I : World → Prop} {N n : Nat} {l : Array Bool} {r : Nat → Value} {w : World}
theorem a_done {a : Act} (h : allB hi l = true) (hI : I w) (hk : K a w) : anyI P ops hi K I 0 l a w := ⟨hI, h, hk⟩
theorem freeB_spec {k : Nat} (h : freeB ops hi l k = true) : Region.noSelect ops.toArray = true ∧ Region.free .any ops.toArray l k = true ∧ k ∈ Region.ready .any ops.toArray l ∧ k < hi := by
  unfold freeB at h
  simp only [Bool.and_eq_true, decide_eq_true_eq, List.contains_iff_mem] at h
  exact ⟨h.1.1.1, h.1.1.2, h.1.2, h.2⟩
theorem onlyB_spec {k : Nat} (h : onlyB ops hi l k = true) : (∀ i ∈ Region.ready .any ops.toArray l, i < hi → i = k) ∧ k ∈ Region.ready .any ops.toArray l ∧ k < hi := by
  unfold onlyB at h
  simp only [Bool.and_eq_true, decide_eq_true_eq, List.contains_iff_mem, List.all_eq_true, Bool.or_eq_true, beq_iff_eq] at h
  exact ⟨fun i hi' hlt => (h.1.1 i hi').elim id fun g => by omega, h.1.2, h.2⟩
theorem a_first {k : Nat} {o : Oper} {v : Value} {a : Act} (ho : ops[k]? = some o) (hf : freeB ops hi l k = true) (hy : YI P ops o v a I) (h : anyI P ops hi K I n (l.setIfInBounds k true) (a.put o.dst v) w) : anyI P ops hi K I (n + 1) l a w := by
  obtain ⟨h1, h2, h3, h4⟩ := freeB_spec hf
  have ho' : ops.toArray[k]? = some o := by simpa using ho
  exact anyI_first ho h4 (fun j o cs b hj => Region.noSelect_spec h1 j o cs b (by simpa using hj)) n l a w (fun j oj hj => Region.free_spec ho' h2 j oj (by simpa using hj)) h3 hy h
theorem a_op {d : Nat} {op : Op} {T : TypeId} {pos : String} {after : Array Edge} {v : Value} (k : Nat) (ho : ops[k]? = some ⟨some d, op, T, pos, after, none⟩) (hf : freeB ops hi l k = true)
    (hv : ∀ w', I w' → OK P ⟨some d, op, T, pos, after, none⟩ (ev N r) w' fun v' w'' => v' = v ∧ w'' = w') (h : anyI P ops hi K I n (l.setIfInBounds k true) (Go.Q.fr N (upd r d v)) w) : anyI P ops hi K I (n + 1) l (Go.Q.fr N r) w := by
  refine a_first ho hf (.inl ⟨by simp [Region.wanted], fun w' hI => ?_⟩) (v := v) (by rw [fr_put]; exact h)
  rw [fr_eval]; exact hv w' hI
theorem a_on {d : Nat} {op : Op} {T : TypeId} {pos : String} {after : Array Edge} {g : Nat} {b : Bool} {v : Value} (k : Nat) (ho : ops[k]? = some ⟨some d, op, T, pos, after, some (g, b)⟩) (hf : freeB ops hi l k = true) (t : Nat) (hgt : dstOf ops g = some t) (hg : ev N r (.tmp t) = .bool b)
    (hv : ∀ w', I w' → OK P ⟨some d, op, T, pos, after, some (g, b)⟩ (ev N r) w' fun v' w'' => v' = v ∧ w'' = w') (h : anyI P ops hi K I n (l.setIfInBounds k true) (Go.Q.fr N (upd r d v)) w) : anyI P ops hi K I (n + 1) l (Go.Q.fr N r) w := by
  refine a_first ho hf (.inl ⟨?_, fun w' hI => ?_⟩) (v := v) (by rw [fr_put]; exact h)
  · obtain ⟨og, h1, h2⟩ := dstOf_spec ops g hgt
    rw [wanted_fr h1 h2 hg]; simp
  · rw [fr_eval]; exact hv w' hI
theorem a_off {d : Nat} {op : Op} {T : TypeId} {pos : String} {after : Array Edge} {g : Nat} {b b' : Bool} (k : Nat) (ho : ops[k]? = some ⟨some d, op, T, pos, after, some (g, b)⟩) (hf : freeB ops hi l k = true) (t : Nat) (hgt : dstOf ops g = some t) (hg : ev N r (.tmp t) = .bool b') (hne : (b' == b) = false)
    (h : anyI P ops hi K I n (l.setIfInBounds k true) (Go.Q.fr N (upd r d undef)) w) : anyI P ops hi K I (n + 1) l (Go.Q.fr N r) w := by
  refine a_first ho hf (.inr ⟨?_, rfl⟩) (by rw [fr_put]; exact h)
  obtain ⟨og, h1, h2⟩ := dstOf_spec ops g hgt
  rw [wanted_fr h1 h2 hg, hne]
theorem a_offu {d : Nat} {op : Op} {T : TypeId} {pos : String} {after : Array Edge} {g : Nat} {b : Bool} (k : Nat) (ho : ops[k]? = some ⟨some d, op, T, pos, after, some (g, b)⟩) (hf : freeB ops hi l k = true) (t : Nat) (hgt : dstOf ops g = some t) (hg : ev N r (.tmp t) = undef)
    (h : anyI P ops hi K I n (l.setIfInBounds k true) (Go.Q.fr N (upd r d undef)) w) : anyI P ops hi K I (n + 1) l (Go.Q.fr N r) w := by
  refine a_first ho hf (.inr ⟨?_, rfl⟩) (by rw [fr_put]; exact h)
  obtain ⟨og, h1, h2⟩ := dstOf_spec ops g hgt
  have hy : yielded ops.toArray (Go.Q.fr N r).tmps g = none := by
    simp only [yielded, show ops.toArray[g]? = some og by simpa using h1, h2, Option.bind_some, fr_at]
    by_cases h : t < N
    · have hb : Nat.blt t N = true := by simpa using h
      simp only [ev, hb] at hg
      have hv' : r t = undef := hg
      rw [if_pos h, hv']; rfl
    · rw [if_neg h]
  simp [Region.wanted, hy]
theorem a_only {k : Nat} {o : Oper} {a : Act} (ho : ops[k]? = some o) (hr : onlyB ops hi l k = true) (hI : I w) (h : okOp P ops k (anyI P ops hi K I n (l.setIfInBounds k true)) a w) : anyI P ops hi K I (n + 1) l a w := by
  obtain ⟨h1, h2, h3⟩ := onlyB_spec hr
  exact ⟨hI, allB_un (ready_un h2).1 h3, fun i hi' hlt => by rw [h1 i hi' hlt]; exact h⟩
theorem a_w {d : Nat} {op : Op} {T : TypeId} {pos : String} {after : Array Edge} (k : Nat) (ho : ops[k]? = some ⟨some d, op, T, pos, after, none⟩) (hr : onlyB ops hi l k = true) (hI : I w)
    (h : OK P ⟨some d, op, T, pos, after, none⟩ (ev N r) w fun v w' => anyI P ops hi K I n (l.setIfInBounds k true) (Go.Q.fr N (upd r d v)) w') : anyI P ops hi K I (n + 1) l (Go.Q.fr N r) w := by
  refine a_only ho hr hI ⟨_, ho, .inl ⟨by simp [Region.wanted], ?_⟩⟩
  rw [fr_eval]; exact h.mono fun v w' hh => by rw [fr_put]; exact hh
theorem a_we {op : Op} {T : TypeId} {pos : String} {after : Array Edge} (k : Nat) (ho : ops[k]? = some ⟨none, op, T, pos, after, none⟩) (hr : onlyB ops hi l k = true) (hI : I w)
    (h : OK P ⟨none, op, T, pos, after, none⟩ (ev N r) w fun _ w' => anyI P ops hi K I n (l.setIfInBounds k true) (Go.Q.fr N r) w') : anyI P ops hi K I (n + 1) l (Go.Q.fr N r) w := by
  refine a_only ho hr hI ⟨_, ho, .inl ⟨by simp [Region.wanted], ?_⟩⟩
  rw [fr_eval]; exact h
theorem a_won {d : Nat} {op : Op} {T : TypeId} {pos : String} {after : Array Edge} {g : Nat} {b : Bool} (k : Nat) (ho : ops[k]? = some ⟨some d, op, T, pos, after, some (g, b)⟩) (hr : onlyB ops hi l k = true) (hI : I w) (t : Nat) (hgt : dstOf ops g = some t) (hg : ev N r (.tmp t) = .bool b)
    (h : OK P ⟨some d, op, T, pos, after, some (g, b)⟩ (ev N r) w fun v w' => anyI P ops hi K I n (l.setIfInBounds k true) (Go.Q.fr N (upd r d v)) w') : anyI P ops hi K I (n + 1) l (Go.Q.fr N r) w := by
  refine a_only ho hr hI ⟨_, ho, .inl ⟨?_, ?_⟩⟩
  · obtain ⟨og, h1, h2⟩ := dstOf_spec ops g hgt
    rw [wanted_fr h1 h2 hg]; simp
  · rw [fr_eval]; exact h.mono fun v w' hh => by rw [fr_put]; exact hh
def twoB (ops : List Oper) (hi : Nat) (l : Array Bool) (k k2 : Nat) : Bool := (Region.ready .any ops.toArray l).all (fun i => i == k || i == k2 || decide (hi ≤ i)) && (Region.ready .any ops.toArray l).contains k && decide (k < hi)
/-- Two that change the world are ready: whichever comes first. -/
theorem a_two {a : Act} (k k2 : Nat) (hr : twoB ops hi l k k2 = true) (hI : I w) (h1 : okOp P ops k (anyI P ops hi K I n (l.setIfInBounds k true)) a w) (h2 : okOp P ops k2 (anyI P ops hi K I n (l.setIfInBounds k2 true)) a w) : anyI P ops hi K I (n + 1) l a w := by
  unfold twoB at hr
  simp only [Bool.and_eq_true, decide_eq_true_eq, List.contains_iff_mem, List.all_eq_true, Bool.or_eq_true, beq_iff_eq] at hr
  refine ⟨hI, allB_un (ready_un hr.1.2).1 hr.2, fun i hi' hlt => ?_⟩
  rcases hr.1.1 i hi' with (e | e) | e
  · rw [e]; exact h1
  · rw [e]; exact h2
  · omega
theorem ok_w {K : Act → World → Prop} {d : Nat} {op : Op} {T : TypeId} {pos : String} {after : Array Edge} (k : Nat) (ho : ops[k]? = some ⟨some d, op, T, pos, after, none⟩)
    (h : OK P ⟨some d, op, T, pos, after, none⟩ (ev N r) w fun v w' => K (Go.Q.fr N (upd r d v)) w') : okOp P ops k K (Go.Q.fr N r) w := by
  refine ⟨_, ho, .inl ⟨by simp [Region.wanted], ?_⟩⟩
  rw [fr_eval]; exact h.mono fun v w' hh => by rw [fr_put]; exact hh
theorem ok_we {K : Act → World → Prop} {op : Op} {T : TypeId} {pos : String} {after : Array Edge} (k : Nat) (ho : ops[k]? = some ⟨none, op, T, pos, after, none⟩)
    (h : OK P ⟨none, op, T, pos, after, none⟩ (ev N r) w fun _ w' => K (Go.Q.fr N r) w') : okOp P ops k K (Go.Q.fr N r) w := by
  refine ⟨_, ho, .inl ⟨by simp [Region.wanted], ?_⟩⟩
  rw [fr_eval]; exact h
theorem ok_won {K : Act → World → Prop} {d : Nat} {op : Op} {T : TypeId} {pos : String} {after : Array Edge} {g : Nat} {b : Bool} (k : Nat) (ho : ops[k]? = some ⟨some d, op, T, pos, after, some (g, b)⟩) (t : Nat) (hgt : dstOf ops g = some t) (hg : ev N r (.tmp t) = .bool b)
    (h : OK P ⟨some d, op, T, pos, after, some (g, b)⟩ (ev N r) w fun v w' => K (Go.Q.fr N (upd r d v)) w') : okOp P ops k K (Go.Q.fr N r) w := by
  refine ⟨_, ho, .inl ⟨?_, ?_⟩⟩
  · obtain ⟨og, h1, h2⟩ := dstOf_spec ops g hgt
    rw [wanted_fr h1 h2 hg]; simp
  · rw [fr_eval]; exact h.mono fun v w' hh => by rw [fr_put]; exact hh
end
/-- An element's address, told once. -/
theorem ix_ex1 {α : Type} {f : α → Value} {ls : List α} {a : α} {t e : TypeId} {L : List Hp} {by_ : Nat} {v z : Value} {i : Int} (ht : P.underlying t = some (.slice e)) (hi : TI P e z 1 by_)
    (hs : Sl L 1 v ls.length (ls.map f)) (h0 : 0 ≤ i) (ha : ls[i.toNat]? = some a) : ∃ b off, CellsAt L b off [f a] ∧ ∀ {ρ : Operand → Value} {dst : Option Tmp} {T : TypeId} {pos : String} {after : Array Edge} {g : Option (Nat × Bool)} {x y : Operand} {k : IntKind} {w : World} {K : Value → World → Prop},
      ρ x = v → ρ y = .int k i → K (.pointer (some ⟨b, off, none⟩)) w → OK P ⟨dst, .indexAddr t x y, T, pos, after, g⟩ ρ w K := by
  have hi' : i.toNat < ls.length := (List.getElem?_eq_some_iff.1 ha).1
  obtain ⟨p, cap, rfl, hnc, hcm, hl, hp⟩ := hs
  obtain ⟨b, off, rfl, hc⟩ := hp (by omega)
  have hc' : CellsAt L b (off + i.toNat * 1) (((ls.map f).drop (i.toNat * 1)).take 1) := hc.sub fun j v hv => by
    rw [List.getElem?_take] at hv
    split at hv
    · rw [List.getElem?_drop] at hv; exact hv
    · cases hv
  rw [drop_take_map f ls i.toNat hi', show ls[i.toNat] = a from (List.getElem?_eq_some_iff.1 ha).2] at hc'
  refine ⟨b, _, hc', fun hx hy hK => OK.val (run_v ?_) hK⟩
  rw [hx, hy]
  simp [Instr.indexAt, asIntOf, run_underlying ht, h0, show i < ls.length by omega, hi.size, add_lit]
theorem ix_exF {α : Type} {f : α → List Value} {sz : Nat} (hf : ∀ a, (f a).length = sz) {ls : List α} {a : α} {t e : TypeId} {L : List Hp} {by_ : Nat} {v z : Value} {i : Int} (ht : P.underlying t = some (.slice e)) (hi : TI P e z sz by_)
    (hs : Sl L sz v ls.length (ls.flatMap f)) (h0 : 0 ≤ i) (ha : ls[i.toNat]? = some a) : ∃ b off, CellsAt L b off (f a) ∧ ∀ {ρ : Operand → Value} {dst : Option Tmp} {T : TypeId} {pos : String} {after : Array Edge} {g : Option (Nat × Bool)} {x y : Operand} {k : IntKind} {w : World} {K : Value → World → Prop},
      ρ x = v → ρ y = .int k i → K (.pointer (some ⟨b, off, none⟩)) w → OK P ⟨dst, .indexAddr t x y, T, pos, after, g⟩ ρ w K := by
  have hi' : i.toNat < ls.length := (List.getElem?_eq_some_iff.1 ha).1
  obtain ⟨p, cap, rfl, hnc, hcm, hl, hp⟩ := hs
  obtain ⟨b, off, rfl, hc⟩ := hp (by omega)
  have hc' : CellsAt L b (off + i.toNat * sz) (((ls.flatMap f).drop (i.toNat * sz)).take sz) := hc.sub fun j v hv => by
    rw [List.getElem?_take] at hv
    split at hv
    · rw [List.getElem?_drop] at hv; exact hv
    · cases hv
  rw [flat_part hf ls i.toNat a ha] at hc'
  refine ⟨b, _, hc', fun hx hy hK => OK.val (run_v ?_) hK⟩
  rw [hx, hy]
  simp [Instr.indexAt, asIntOf, run_underlying ht, h0, show i < ls.length by omega, hi.size, add_lit]
theorem o_makeFuncF {ρ : Operand → Value} {w : World} {K : Value → World → Prop} {dst : Option Tmp} {T : TypeId} {pos : String} {after : Array Edge} {g : Option (Nat × Bool)} {f : FuncId} {cs bs : Array Operand} {us vs : Array Value} (hu : bs.map ρ = us) (hv : cs.map ρ = vs)
    (hK : K (.func (.func f) us vs) w) : OK P ⟨dst, .makeFunc (.func f) bs cs, T, pos, after, g⟩ ρ w K := by
  refine OK.val (w' := w) ?_ hK
  subst hv hu; simp [execOp, Instr.makeFunc]
theorem cap0 {ρ : Operand → Value} : (#[] : Array Operand).map ρ = #[] := by simp
end
end Go.Q
namespace Go.Q
open Go.Proofs
set_option linter.unusedVariables false
set_option maxRecDepth 100000
attribute [local irreducible] wpList OK Code.wp
set_option maxHeartbeats 4000000 in
theorem clash_c {E w : World} {R : List Hp} {p : Plc} {q : Plc}  (hH : Has E w [R]) :
    Calls Try.prog 97 #[(.agg #[(S p.key), (.bool p.wr), (.int .i64 p.own)]), (.agg #[(S q.key), (.bool q.wr), (.int .i64 q.own)])] w fun e w' => e = .returned (.bool (clashS p q)) ∧ Has E w' [R] := by
  refine c_enter (args := [(.agg #[(S p.key), (.bool p.wr), (.int .i64 p.own)]), (.agg #[(S q.key), (.bool q.wr), (.int .i64 q.own)])]) Try.func97 rfl Try.ntmps97 (by simp) ?_
  refine wp_seq_k fun K1 hK1 => ?_
  refine c_region ?_
  refine s_op (o_box (cs := #[(S p.key), (.bool p.wr), (.int .i64 p.own)]) rfl rfl hH fun b2 w3 hH4 => ?_)
  refine s_op (o_box (cs := #[(S q.key), (.bool q.wr), (.int .i64 q.own)]) rfl rfl hH4 fun b5 w6 hH7 => ?_)
  refine s_op (o_assign (v := (.bool false)) rfl ?_)
  refine s_nil ?_
  refine t_norm (hK1 _ _ ?_)
  refine wp_seq_k fun K8 hK8 => ?_
  refine c_region ?_
  refine s_op (o_fieldAddr (k := 2) (fun _ => by kernel_rfl) rfl ?_)
  refine s_op (o_load1 (v := (.int .i64 p.own)) Try.underlying3 rfl rfl hH7 (seg_sub 1 rfl) (CellsAt.one rfl) ?_)
  refine s_op (o_fieldAddr (k := 2) (fun _ => by kernel_rfl) rfl ?_)
  refine s_op (o_load1 (v := (.int .i64 q.own)) Try.underlying3 rfl rfl hH7 (seg_sub 0 rfl) (CellsAt.one rfl) ?_)
  refine s_op (o_neq (a := p.own) (b := q.own) rfl rfl ?_)
  refine s_op (o_move (v := (.bool (decide (p.own ≠ q.own)))) rfl ?_)
  by_cases h9 : p.own ≠ q.own
  · -- p.own ≠ q.own
    refine s_on 10 rfl (congrArg Value.bool (decide_eq_true h9)) (o_fieldAddr (k := 0) (fun _ => by kernel_rfl) rfl ?_)
    refine s_on 10 rfl (congrArg Value.bool (decide_eq_true h9)) (o_fieldAddr (k := 1) (fun _ => by kernel_rfl) rfl ?_)
    refine s_on 10 rfl (congrArg Value.bool (decide_eq_true h9)) (o_load1 (v := (.bool p.wr)) Try.underlying4 rfl rfl hH7 (seg_sub 1 rfl) (CellsAt.one rfl) ?_)
    refine s_on 10 rfl (congrArg Value.bool (decide_eq_true h9)) (o_move (v := (.bool p.wr)) rfl ?_)
    rcases Bool.eq_false_or_eq_true p.wr with h10 | h10
    · -- p.wr
      refine s_off (b' := true) 14 rfl (congrArg Value.bool h10) rfl ?_
      refine s_off (b' := true) 14 rfl (congrArg Value.bool h10) rfl ?_
      refine s_off (b' := true) 14 rfl (congrArg Value.bool h10) rfl ?_
      refine s_on 10 rfl (congrArg Value.bool (decide_eq_true h9)) (o_pick_t (u := (.bool true)) ((rfl : _ = _).trans (congrArg Value.bool h10)) rfl ?_)
      refine s_op (o_pick_t (u := (.bool true)) ((rfl : _ = _).trans (congrArg Value.bool (decide_eq_true h9))) rfl ?_)
      refine s_op (o_assign (v := (.bool true)) rfl ?_)
      refine s_nil ?_
      refine t_norm (hK8 _ _ ?_)
      refine wp_ret ?_
      refine c_ret1 Try.results97  (v := (.bool true)) rfl ?_
      have q11 : clashS p q = true := by unfold clashS; simp [h9, h10]
      have hH12 : Has E w6 [R] := (hH7.front 2 rfl).first 1 rfl
      exact ⟨by rw [q11], hH12⟩
    · -- not: p.wr
      refine s_on 14 rfl (congrArg Value.bool h10) (o_fieldAddr (k := 0) (fun _ => by kernel_rfl) rfl ?_)
      refine s_on 14 rfl (congrArg Value.bool h10) (o_fieldAddr (k := 1) (fun _ => by kernel_rfl) rfl ?_)
      refine s_on 14 rfl (congrArg Value.bool h10) (o_load1 (v := (.bool q.wr)) Try.underlying4 rfl rfl hH7 (seg_sub 0 rfl) (CellsAt.one rfl) ?_)
      refine s_on 10 rfl (congrArg Value.bool (decide_eq_true h9)) (o_pick_f (u := (.bool q.wr)) ((rfl : _ = _).trans (congrArg Value.bool h10)) rfl ?_)
      refine s_op (o_pick_t (u := (.bool q.wr)) ((rfl : _ = _).trans (congrArg Value.bool (decide_eq_true h9))) rfl ?_)
      refine s_op (o_assign (v := (.bool q.wr)) rfl ?_)
      refine s_nil ?_
      refine t_norm (hK8 _ _ ?_)
      refine wp_ret ?_
      refine c_ret1 Try.results97  (v := (.bool q.wr)) rfl ?_
      have q13 : clashS p q = q.wr := by unfold clashS; simp [h9, h10]
      have hH14 : Has E w6 [R] := (hH7.front 2 rfl).first 1 rfl
      exact ⟨by rw [q13], hH14⟩
  · -- not: p.own ≠ q.own
    refine s_off (b' := false) 10 rfl (congrArg Value.bool (decide_eq_false h9)) rfl ?_
    refine s_off (b' := false) 10 rfl (congrArg Value.bool (decide_eq_false h9)) rfl ?_
    refine s_off (b' := false) 10 rfl (congrArg Value.bool (decide_eq_false h9)) rfl ?_
    refine s_off (b' := false) 10 rfl (congrArg Value.bool (decide_eq_false h9)) rfl ?_
    refine s_offu 14 rfl rfl ?_
    refine s_offu 14 rfl rfl ?_
    refine s_offu 14 rfl rfl ?_
    refine s_off (b' := false) 10 rfl (congrArg Value.bool (decide_eq_false h9)) rfl ?_
    refine s_op (o_pick_f (u := (.bool false)) ((rfl : _ = _).trans (congrArg Value.bool (decide_eq_false h9))) rfl ?_)
    refine s_op (o_assign (v := (.bool false)) rfl ?_)
    refine s_nil ?_
    refine t_norm (hK8 _ _ ?_)
    refine wp_ret ?_
    refine c_ret1 Try.results97  (v := (.bool false)) rfl ?_
    have q15 : clashS p q = false := by unfold clashS; simp [h9]
    have hH16 : Has E w6 [R] := (hH7.front 2 rfl).first 1 rfl
    exact ⟨by rw [q15], hH16⟩
set_option maxHeartbeats 4000000 in
theorem pindexf_c {E w : World} {R : List Hp} {v_l : Value} {l : List Plc} {fn : FuncId} {first cap : Array Value} {va : Value → Array Value} {c : Plc → Bool}  (hH : Has E w [R]) (h_l : Sl R 3 v_l l.length (l.flatMap plC)) (hcl : Callable Try.prog fn) (hva : ∀ v, first ++ #[v] ++ cap = va v) (hcb : ∀ {w : World} (F_ : List Hp) (x_ : Plc), Has E w [R, F_] → Calls Try.prog fn (va (.agg #[(S x_.key), (.bool x_.wr), (.int .i64 x_.own)])) w fun e w' => e = .returned (.bool (c x_)) ∧ Has E w' [R, F_]) :
    Calls Try.prog 125 #[v_l, (.func (.func fn) first cap)] w fun e w' => e = .returned (.int .i64 (idxG c l)) ∧ Has E w' [R] := by
  have hn_ := h_l.le
  refine c_enter (args := [v_l, (.func (.func fn) first cap)]) Try.func125 rfl Try.ntmps125 (by simp) ?_
  refine wp_seq_k fun K1 hK1 => ?_
  refine c_region ?_
  refine s_op (o_assign (v := (.int .i64 0)) rfl ?_)
  refine s_nil ?_
  refine t_norm (hK1 _ _ ?_)
  refine wp_seq_k fun K2 hK2 => ?_
  refine wp_seq_k fun K3 hK3 => ?_
  refine c_region ?_
  refine s_op (o_move (v := v_l) rfl ?_)
  refine s_op (o_lenS Try.underlying166 rfl h_l ?_)
  refine s_op (o_move (v := (.int .i64 0)) rfl ?_)
  refine s_nil ?_
  refine t_norm (hK3 _ _ ?_)
  refine wp_block ?_
  let I5 : Nat → (Nat → Value) → World → Prop := fun n__ r__ w__ => ∃ (k : Nat), n__ = l.length - k ∧ Has E w__ [R] ∧ (k ≤ l.length) ∧ (∀ j, j < k → ∀ y, l[j]? = some y → c y = false) ∧ r__ 0 = v_l ∧ r__ 1 = (.func (.func fn) first cap) ∧ r__ 7 = (.int .i64 ((l.length : Nat) : Int)) ∧ r__ 8 = (.int .i64 (k : Int))
  refine c_loop I5 _ ⟨0, rfl, hH, Nat.zero_le _, fun j hj => by omega, rfl, rfl, rfl, rfl⟩ ?_
  rintro n_ r8 w6 ⟨k, rfl, hH7, hk, hf, e4_0, e4_1, e4_7, e4_8⟩
  refine wp_seq_k fun K9 hK9 => ?_
  refine c_region ?_
  refine s_op (o_lss (a := (k : Int)) (b := ((l.length : Nat) : Int)) e4_8 e4_7 ?_)
  refine s_nil ?_
  refine t_norm (hK9 _ _ ?_)
  refine wp_seq_k fun K10 hK10 => ?_
  refine c_cond rfl (fun h11 => ?_) (fun h11 => ?_)
  · -- (k : Int) < ((l.length : Nat) : Int)
    refine wp_skip ?_
    refine t_norm (hK10 _ _ ?_)
    refine wp_seq_k fun K12 hK12 => ?_
    refine wp_block ?_
    refine wp_seq_k fun K13 hK13 => ?_
    refine c_region ?_
    refine s_op (o_move (v := (.int .i64 (k : Int))) e4_8 ?_)
    refine s_op (o_assign (v := (.int .i64 (k : Int))) rfl ?_)
    refine s_nil ?_
    refine t_norm (hK13 _ _ ?_)
    refine wp_seq_k fun K14 hK14 => ?_
    refine c_region ?_
    refine s_op (o_move (v := (.func (.func fn) first cap)) e4_1 ?_)
    refine s_op (o_move (v := v_l) e4_0 ?_)
    refine s_op (o_move (v := (.int .i64 (k : Int))) rfl ?_)
    obtain ⟨x18, hx19⟩ : ∃ x_, l[((k : Int)).toNat]? = some x_ := get_some (by omega)
    refine s_op (o_indexF plC_len Try.underlying166 ti170 rfl h_l rfl rfl (by omega) hx19 fun b15 o16 hc17 => ?_)
    refine s_op (o_loadN (cs := [(S x18.key), (.bool x18.wr), (.int .i64 x18.own)]) Try.underlying170 rfl ti170 rfl hH7 (seg_sub 0 rfl) hc17 ?_)
    refine s_op (o_callf (first := first) (captured := cap) (vs := va (.agg #[(S x18.key), (.bool x18.wr), (.int .i64 x18.own)])) hcl rfl ((argsG1 rfl).trans (hva _)) (hcb _ x18 hH7.all1) ?_)
    rintro _ w22 ⟨rfl, hX20⟩
    refine ⟨_, rfl, ?_⟩
    have hH21 := hX20.of_all1
    refine s_nil ?_
    refine t_norm (hK14 _ _ ?_)
    refine c_condb rfl (fun h23 => ?_) (fun h23 => ?_)
    · -- c x18
      refine wp_seq_k fun K24 hK24 => ?_
      refine c_region ?_
      refine s_op (o_move (v := (.int .i64 (k : Int))) rfl ?_)
      refine s_op (o_assign (v := (.int .i64 (k : Int))) rfl ?_)
      refine s_nil ?_
      refine t_norm (hK24 _ _ ?_)
      refine wp_ret ?_
      refine b_ret (t_ret (t_ret (b_ret (t_ret (c_ret1 Try.results125  (v := (.int .i64 (k : Int))) rfl ?_)))))
      have q25 : idxG c l = (k : Int) := by exact idxG_some hf (show l[k]? = some _ from hx19) h23
      exact ⟨by rw [q25], hH21⟩
    · -- not: c x18
      refine wp_skip ?_
      refine b_norm ?_
      refine t_norm (hK12 _ _ ?_)
      refine c_region ?_
      refine s_op (o_add (a := (k : Int)) (b := 1) e4_8 rfl (w64 (by omega) (by omega)) ?_)
      refine s_op (o_move (v := (.int .i64 ((k : Int) + 1))) rfl ?_)
      refine s_nil ?_
      refine t_norm ⟨l.length - (k + 1), _, rfl, ?_, ?_⟩
      · omega
      · exact ⟨(k + 1), rfl, hH21, (by omega), ((fun j hj y hy => by rcases Nat.lt_or_ge j k with g | g; exact hf j g y hy; obtain rfl : j = k := (by omega); have e_ := hy.symm.trans (show l[j]? = some _ from hx19); cases e_; exact h23)), e4_0, e4_1, e4_7, rfl⟩
  · -- not: (k : Int) < ((l.length : Nat) : Int)
    refine wp_exit ?_
    refine t_exit (t_exit (x_in (?_)))
    refine t_norm (hK2 _ _ ?_)
    refine wp_seq_k fun K26 hK26 => ?_
    refine c_region ?_
    refine s_op (o_assign (v := (.int .i64 (-1))) rfl ?_)
    refine s_nil ?_
    refine t_norm (hK26 _ _ ?_)
    refine wp_ret ?_
    refine c_ret1 Try.results125  (v := (.int .i64 (-1))) rfl ?_
    have q27 : idxG c l = -1 := by exact idxG_none fun j x hx => hf j (by have := (List.getElem?_eq_some_iff.1 hx).1; omega) x hx
    exact ⟨by rw [q27], hH7⟩
set_option maxHeartbeats 4000000 in
theorem pcontainsf_c {E w : World} {R : List Hp} {v_l : Value} {l : List Plc} {fn : FuncId} {first cap : Array Value} {va : Value → Array Value} {c : Plc → Bool}  (hH : Has E w [R]) (h_l : Sl R 3 v_l l.length (l.flatMap plC)) (hcl : Callable Try.prog fn) (hva : ∀ v, first ++ #[v] ++ cap = va v) (hcb : ∀ {w : World} (F_ : List Hp) (x_ : Plc), Has E w [R, F_] → Calls Try.prog fn (va (.agg #[(S x_.key), (.bool x_.wr), (.int .i64 x_.own)])) w fun e w' => e = .returned (.bool (c x_)) ∧ Has E w' [R, F_]) :
    Calls Try.prog 127 #[v_l, (.func (.func fn) first cap)] w fun e w' => e = .returned (.bool (l.any c)) ∧ Has E w' [R] := by
  refine c_enter (args := [v_l, (.func (.func fn) first cap)]) Try.func127 rfl Try.ntmps127 (by simp) ?_
  refine wp_seq_k fun K1 hK1 => ?_
  refine c_region ?_
  refine s_op (o_assign (v := (.bool false)) rfl ?_)
  refine s_nil ?_
  refine t_norm (hK1 _ _ ?_)
  refine wp_seq_k fun K2 hK2 => ?_
  refine c_region ?_
  refine s_op (o_move (v := v_l) rfl ?_)
  refine s_op (o_move (v := (.func (.func fn) first cap)) rfl ?_)
  refine s_op (o_callf (vs := #[v_l, (.func (.func fn) first cap)]) ca125 rfl (args2 rfl rfl) (pindexf_c (l := l) (c := c) (va := va) hH.all (h_l.mono (seg_sub 0 rfl)) hcl hva (cb_more (α := Plc) (R := R) (va := fun x_ => va (.agg #[(S x_.key), (.bool x_.wr), (.int .i64 x_.own)])) (A := fun x_ e_ => e_ = .returned (.bool (c x_))) hcb)) ?_)
  rintro _ w5 ⟨rfl, hX3⟩
  refine ⟨_, rfl, ?_⟩
  have hH4 := hX3.of_all
  refine s_op (o_geq (a := idxG c l) (b := 0) rfl rfl ?_)
  refine s_op (o_assign (v := (.bool (decide (0 ≤ idxG c l)))) rfl ?_)
  refine s_nil ?_
  refine t_norm (hK2 _ _ ?_)
  refine wp_ret ?_
  refine c_ret1 Try.results127  (v := (.bool (decide (0 ≤ idxG c l)))) rfl ?_
  have q6 : l.any c = decide (0 ≤ idxG c l) := by exact idxG_any.symm
  exact ⟨by rw [q6], hH4⟩
set_option maxHeartbeats 4000000 in
theorem atf_c {E w : World} {R : List Hp} {p : Plc} {ob : Nat} {o : Int}  (hH : Has E w [R]) (h_ob : CellsAt R ob 0 [(.int .i64 o)]) :
    Calls Try.prog 126 #[(.agg #[(S p.key), (.bool p.wr), (.int .i64 p.own)]), (.pointer (some ⟨ob, 0, none⟩))] w fun e w' => e = .returned (.bool (ownIs o p)) ∧ Has E w' [R] := by
  refine c_enter (args := [(.agg #[(S p.key), (.bool p.wr), (.int .i64 p.own)]), (.pointer (some ⟨ob, 0, none⟩))]) Try.func126 rfl Try.ntmps126 (by simp) ?_
  refine wp_seq_k fun K1 hK1 => ?_
  refine c_region ?_
  refine s_op (o_box (cs := #[(S p.key), (.bool p.wr), (.int .i64 p.own)]) rfl rfl hH fun b2 w3 hH4 => ?_)
  refine s_op (o_assign (v := (.bool false)) rfl ?_)
  refine s_nil ?_
  refine t_norm (hK1 _ _ ?_)
  refine wp_seq_k fun K5 hK5 => ?_
  refine c_region ?_
  refine s_op (o_fieldAddr (k := 2) (fun _ => by kernel_rfl) rfl ?_)
  refine s_op (o_load1 (v := (.int .i64 p.own)) Try.underlying3 rfl rfl hH4 (seg_sub 0 rfl) (CellsAt.one rfl) ?_)
  refine s_op (o_load1 (v := (.int .i64 o)) Try.underlying3 rfl rfl hH4 (seg_sub 1 rfl) h_ob ?_)
  refine s_op (o_eql (a := p.own) (b := o) rfl rfl ?_)
  refine s_op (o_assign (v := (.bool (decide (p.own = o)))) rfl ?_)
  refine s_nil ?_
  refine t_norm (hK5 _ _ ?_)
  refine wp_ret ?_
  refine c_ret1 Try.results126  (v := (.bool (decide (p.own = o)))) rfl ?_
  have q6 : ownIs o p = decide (p.own = o) := by rfl
  have hH7 : Has E w3 [R] := (hH4.front 1 rfl).first 1 rfl
  exact ⟨by rw [q6], hH7⟩
set_option maxHeartbeats 4000000 in
theorem at_c {E w : World} {R : List Hp} {v_l : Value} {l : List Plc} {o : Int}  (hH : Has E w [R]) (h_l : Sl R 3 v_l l.length (l.flatMap plC)) :
    Calls Try.prog 90 #[v_l, (.int .i64 o)] w fun e w' => e = .returned (.int .i64 (atS l o)) ∧ Has E w' [R] := by
  refine c_enter (args := [v_l, (.int .i64 o)]) Try.func90 rfl Try.ntmps90 (by simp) ?_
  refine wp_seq_k fun K1 hK1 => ?_
  refine c_region ?_
  refine s_op (o_box (cs := #[(.int .i64 o)]) rfl rfl hH fun b2 w3 hH4 => ?_)
  refine s_op (o_assign (v := (.int .i64 0)) rfl ?_)
  refine s_nil ?_
  refine t_norm (hK1 _ _ ?_)
  refine wp_seq_k fun K5 hK5 => ?_
  refine c_region ?_
  refine s_op (o_move (v := v_l) rfl ?_)
  refine s_op (o_makeFunc (vs := #[(.pointer (some ⟨b2, 0, none⟩))]) (cap1 rfl) ?_)
  refine s_op (o_callf (vs := #[v_l, (.func (.func 126) #[] #[(.pointer (some ⟨b2, 0, none⟩))])]) ca125 rfl (args2 rfl rfl) (pindexf_c (l := l) (c := ownIs o) (va := fun v_ => #[v_, (.pointer (some ⟨b2, 0, none⟩))]) hH4.all (h_l.mono (seg_sub 1 rfl)) ca126 (fun _ => by simp) (fun F_ x_ h_ => Calls.frameF (atf_c (p := x_) h_.all ((CellsAt.one rfl).mono (fun _ g_ => sub_l ((seg_sub 0 rfl) g_)))))) ?_)
  rintro _ w8 ⟨rfl, hX6⟩
  refine ⟨_, rfl, ?_⟩
  have hH7 := hX6.of_all
  refine s_op (o_assign (v := (.int .i64 (idxG (ownIs o) l))) rfl ?_)
  refine s_nil ?_
  refine t_norm (hK5 _ _ ?_)
  refine wp_ret ?_
  refine c_ret1 Try.results90  (v := (.int .i64 (idxG (ownIs o) l))) rfl ?_
  have q9 : atS l o = idxG (ownIs o) l := by rw [atS_idx]
  have hH10 : Has E w8 [R] := (hH7.front 1 rfl).first 1 rfl
  exact ⟨by rw [q9], hH10⟩
def EntAt (b : Nat) (sg : List Hp) (v : Ent) : Prop := ∃ (x0 : Value) (x1 : Value) (h0 : List Hp) (h1 : List Hp), sg = ([Hp.one b (.cells #[x0, x1] 168 (0, 0))] ++ (h0 ++ h1)) ∧ (Own 170 3 x0 v.hold.length (v.hold.flatMap plC) h0) ∧ (Own 170 3 x1 v.line.length (v.line.flatMap plC) h1)
def EntRd (R : List Hp) (b : Nat) (v : Ent) : Prop := ∃ (x0 : Value) (x1 : Value), CellsAt R b 0 [x0, x1] ∧ (Sl R 3 x0 v.hold.length (v.hold.flatMap plC)) ∧ (Sl R 3 x1 v.line.length (v.line.flatMap plC))
theorem EntAt.mk {b : Nat} {v : Ent} {x0 : Value} {x1 : Value} {h0 : List Hp} {h1 : List Hp} (f0 : Own 170 3 x0 v.hold.length (v.hold.flatMap plC) h0) (f1 : Own 170 3 x1 v.line.length (v.line.flatMap plC) h1) : EntAt b (([Hp.one b (.cells #[x0, x1] 168 (0, 0))] ++ (h0 ++ h1))) v := ⟨_, _, _, _, rfl, f0, f1⟩
theorem EntRd.mk {R : List Hp} {b : Nat} {v : Ent} {x0 : Value} {x1 : Value} (hc : CellsAt R b 0 [x0, x1]) (f0 : Sl R 3 x0 v.hold.length (v.hold.flatMap plC)) (f1 : Sl R 3 x1 v.line.length (v.line.flatMap plC)) : EntRd R b v := ⟨_, _, hc, f0, f1⟩
theorem EntRd.mono {R R' : List Hp} {b : Nat} {v : Ent} (h : EntRd R b v) (hs : R ⊆ R') : EntRd R' b v := by
  obtain ⟨x0, x1, hc, f0, f1⟩ := h
  exact EntRd.mk (hc.mono hs) (f0.mono hs) (f1.mono hs)
theorem EntAt.rd {b : Nat} {sg : List Hp} {v : Ent} (h : EntAt b sg v) : EntRd sg b v := by
  obtain ⟨x0, x1, h0, h1, rfl, f0, f1⟩ := h
  exact EntRd.mk ((CellsAt.one rfl).mono (fun _ g_ => List.mem_append_left _ g_)) (f0.sl.mono (fun _ g_ => List.mem_append_right _ ((List.mem_append_left _ g_)))) (f1.sl.mono (fun _ g_ => List.mem_append_right _ (List.mem_append_right _ (g_))))
set_option maxHeartbeats 4000000 in
theorem free_c {E w : World} {R : List Hp} {eb : Nat} {v : Ent} {p : Plc}  (hH : Has E w [R]) (h_eb : EntRd R eb v) :
    Calls Try.prog 91 #[(.pointer (some ⟨eb, 0, none⟩)), (.agg #[(S p.key), (.bool p.wr), (.int .i64 p.own)])] w fun e w' => e = .returned (.bool (freeS v.hold p)) ∧ Has E w' [R] := by
  obtain ⟨x1, x2, hc5, f3, f4⟩ := h_eb
  have f3_n := f3.le
  have f4_n := f4.le
  refine c_enter (args := [(.pointer (some ⟨eb, 0, none⟩)), (.agg #[(S p.key), (.bool p.wr), (.int .i64 p.own)])]) Try.func91 rfl Try.ntmps91 (by simp) ?_
  refine wp_seq_k fun K6 hK6 => ?_
  refine c_region ?_
  refine s_op (o_box (cs := #[(S p.key), (.bool p.wr), (.int .i64 p.own)]) rfl rfl hH fun b7 w8 hH9 => ?_)
  refine s_op (o_assign (v := (.bool false)) rfl ?_)
  refine s_nil ?_
  refine t_norm (hK6 _ _ ?_)
  refine wp_seq_k fun K10 hK10 => ?_
  refine Rest.region mixed (by kernel_rfl) ?_
  have hH11 : Has E { w8 with drawn := w8.drawn + 1 } [[Hp.one b7 (.cells #[(S p.key), (.bool p.wr), (.int .i64 p.own)] 170 (0, 0))], R] := Has0.drew hH9 _
  refine Rest.phaseA (fun w_ => Has E w_ [[Hp.one b7 (.cells #[(S p.key), (.bool p.wr), (.int .i64 p.own)] 170 (0, 0))], R]) 0 6 6 rfl (by decide) (by kernel_rfl) ?_
  refine a_op 0 rfl (by kernel_rfl) (fun w_ h_ => o_move (v := (.pointer (some ⟨eb, 0, none⟩))) rfl ⟨rfl, rfl⟩) ?_
  refine a_op 1 rfl (by kernel_rfl) (fun w_ h_ => o_nilCheck rfl ⟨rfl, rfl⟩) ?_
  refine a_op 2 rfl (by kernel_rfl) (fun w_ h_ => o_fieldAddr (k := 0) (fun _ => by kernel_rfl) rfl ⟨rfl, rfl⟩) ?_
  refine a_op 3 rfl (by kernel_rfl) (fun w_ h_ => o_load1 (v := x1) Try.underlying166 rfl rfl h_ (seg_sub 1 rfl) (CellsAt.field (k := 0) (ds := [x1]) hc5 rfl) ⟨rfl, rfl⟩) ?_
  refine a_op 4 rfl (by kernel_rfl) (fun w_ h_ => o_loadN (cs := [(S p.key), (.bool p.wr), (.int .i64 p.own)]) Try.underlying170 rfl ti170 rfl h_ (seg_sub 0 rfl) (CellsAt.one rfl) ⟨rfl, rfl⟩) ?_
  refine a_op 5 rfl (by kernel_rfl) (fun w_ h_ => o_makeFuncF (us := #[(.agg #[(S p.key), (.bool p.wr), (.int .i64 p.own)])]) (vs := #[]) (cap1 rfl) (cap0) ⟨rfl, rfl⟩) ?_
  refine a_done (by kernel_rfl) hH11 ?_
  refine r_op 6 rfl (by kernel_rfl) (o_callf (vs := #[x1, (.func (.func 97) #[(.agg #[(S p.key), (.bool p.wr), (.int .i64 p.own)])] #[])]) ca127 rfl (args2 rfl rfl) (pcontainsf_c (l := v.hold) (c := clashS p) (va := fun v_ => #[(.agg #[(S p.key), (.bool p.wr), (.int .i64 p.own)]), v_]) hH11.all (f3.mono (seg_sub 1 rfl)) ca97 (fun _ => by simp) (fun F_ x_ h_ => Calls.frameF (clash_c (p := p) (q := x_) h_.all))) ?_)
  rintro _ w14 ⟨rfl, hX12⟩
  refine ⟨_, rfl, ?_⟩
  have hH13 := hX12.of_all
  refine r_op 7 rfl (by kernel_rfl) (o_not rfl ?_)
  refine r_op 8 rfl (by kernel_rfl) (o_assign (v := (.bool (!(v.hold.any (clashS p))))) rfl ?_)
  refine Rest.done (by kernel_rfl) ?_
  refine t_norm (hK10 _ _ ?_)
  refine wp_ret ?_
  refine c_ret1 Try.results91  (v := (.bool (!(v.hold.any (clashS p))))) rfl ?_
  have q15 : freeS v.hold p = !(v.hold.any (clashS p)) := by unfold freeS; simp
  have hH16 : Has E w14 [R] := (hH13.front 1 rfl).first 1 rfl
  exact ⟨by rw [q15], hH16⟩
end Go.Q
namespace Go.Q
theorem app_sub' {L M R : List Hp} (h : L ⊆ R) (k : M ⊆ R) : (L ++ M) ⊆ R := fun _ hx => (List.mem_append.1 hx).elim (fun g => h g) (fun g => k g)
theorem Has.mid {E w : World} {a b c : List Hp} {ss : List (List Hp)} (H : Has E w ((a ++ (b ++ c)) :: ss)) : Has E w (b :: (a ++ c) :: ss) := by
  unfold Has at *
  refine Has0.perm H ?_
  simp only [List.flatten_cons, List.append_assoc]
  exact List.perm_append_comm_assoc b a _
theorem Has.mid' {E w : World} {a b c : List Hp} {ss : List (List Hp)} (H : Has E w (b :: (a ++ c) :: ss)) : Has E w ((a ++ (b ++ c)) :: ss) := by
  unfold Has at *
  refine Has0.perm H ?_
  simp only [List.flatten_cons, List.append_assoc]
  exact List.perm_append_comm_assoc a b _
def bpV (b : Nat) : Value := .pointer (some ⟨b, 0, none⟩)
/- An object's heaplets as one, and told apart. -/
theorem Has.cl2 {E w : World} {a b : List Hp} {ss : List (List Hp)} (H : Has E w (a :: b :: ss)) : Has E w ((a ++ b) :: ss) := by
  unfold Has at *; simpa only [List.flatten_cons, List.append_assoc] using H
theorem Has.op2 {E w : World} {a b : List Hp} {ss : List (List Hp)} (H : Has E w ((a ++ b) :: ss)) : Has E w (a :: b :: ss) := by
  unfold Has at *; simpa only [List.flatten_cons, List.append_assoc] using H
theorem Has.cl3 {E w : World} {a b c : List Hp} {ss : List (List Hp)} (H : Has E w (a :: b :: c :: ss)) : Has E w ((a ++ (b ++ c)) :: ss) := by
  unfold Has at *; simpa only [List.flatten_cons, List.append_assoc] using H
theorem Has.op3 {E w : World} {a b c : List Hp} {ss : List (List Hp)} (H : Has E w ((a ++ (b ++ c)) :: ss)) : Has E w (a :: b :: c :: ss) := by
  unfold Has at *; simpa only [List.flatten_cons, List.append_assoc] using H
theorem Has.cl4 {E w : World} {a b c d : List Hp} {ss : List (List Hp)} (H : Has E w (a :: b :: c :: d :: ss)) : Has E w ((a ++ (b ++ (c ++ d))) :: ss) := by
  unfold Has at *; simpa only [List.flatten_cons, List.append_assoc] using H
theorem Has.op4 {E w : World} {a b c d : List Hp} {ss : List (List Hp)} (H : Has E w ((a ++ (b ++ (c ++ d))) :: ss)) : Has E w (a :: b :: c :: d :: ss) := by
  unfold Has at *; simpa only [List.flatten_cons, List.append_assoc] using H
theorem Has.cl5 {E w : World} {a b c d e : List Hp} {ss : List (List Hp)} (H : Has E w (a :: b :: c :: d :: e :: ss)) : Has E w ((a ++ (b ++ (c ++ (d ++ e)))) :: ss) := by
  unfold Has at *; simpa only [List.flatten_cons, List.append_assoc] using H
theorem Has.op5 {E w : World} {a b c d e : List Hp} {ss : List (List Hp)} (H : Has E w ((a ++ (b ++ (c ++ (d ++ e)))) :: ss)) : Has E w (a :: b :: c :: d :: e :: ss) := by
  unfold Has at *; simpa only [List.flatten_cons, List.append_assoc] using H
theorem Has.cl6 {E w : World} {a b c d e f : List Hp} {ss : List (List Hp)} (H : Has E w (a :: b :: c :: d :: e :: f :: ss)) : Has E w ((a ++ (b ++ (c ++ (d ++ (e ++ f))))) :: ss) := by
  unfold Has at *; simpa only [List.flatten_cons, List.append_assoc] using H
theorem Has.op6 {E w : World} {a b c d e f : List Hp} {ss : List (List Hp)} (H : Has E w ((a ++ (b ++ (c ++ (d ++ (e ++ f))))) :: ss)) : Has E w (a :: b :: c :: d :: e :: f :: ss) := by
  unfold Has at *; simpa only [List.flatten_cons, List.append_assoc] using H
theorem Has.cl7 {E w : World} {a b c d e f g : List Hp} {ss : List (List Hp)} (H : Has E w (a :: b :: c :: d :: e :: f :: g :: ss)) : Has E w ((a ++ (b ++ (c ++ (d ++ (e ++ (f ++ g)))))) :: ss) := by
  unfold Has at *; simpa only [List.flatten_cons, List.append_assoc] using H
theorem Has.op7 {E w : World} {a b c d e f g : List Hp} {ss : List (List Hp)} (H : Has E w ((a ++ (b ++ (c ++ (d ++ (e ++ (f ++ g)))))) :: ss)) : Has E w (a :: b :: c :: d :: e :: f :: g :: ss) := by
  unfold Has at *; simpa only [List.flatten_cons, List.append_assoc] using H
structure DEnt (κ σ : Type) where
  key : κ
  b : Nat
  sg : List Hp
  val : σ
section
variable {κ σ : Type} [DecidableEq κ]
/-- Where each object is. -/
def wher (L : List (DEnt κ σ)) : List (κ × Nat) := L.map fun x => (x.key, x.b)
def what (L : List (DEnt κ σ)) : List (κ × σ) := L.map fun x => (x.key, x.val)
def DirAt (gk : κ → Value) (At : Nat → List Hp → σ → Prop) (mb : Nat) (sg : List Hp) (t : List (κ × σ)) : Prop :=
  ∃ es c L, sg = [Hp.one mb (.map es c)] ++ L.flatMap (·.sg) ∧ MapV gk bpV es c (wher L) ∧ (∀ x ∈ L, At x.b x.sg x.val) ∧ what L = t
def DirRd (gk : κ → Value) (Rd : List Hp → Nat → σ → Prop) (R : List Hp) (mb : Nat) (t : List (κ × σ)) : Prop :=
  ∃ es c L, Hp.one mb (.map es c) ∈ R ∧ MapV gk bpV es c (wher L) ∧ (∀ x ∈ L, Rd R x.b x.val) ∧ what L = t
/-- All but the object of one key, whose block is b. -/
def DirHole (gk : κ → Value) (At : Nat → List Hp → σ → Prop) (mb : Nat) (k : κ) (b : Nat) (sr : List Hp) (t : List (κ × σ)) : Prop :=
  ∃ es c A B v sx, sr = [Hp.one mb (.map es c)] ++ (A.flatMap (·.sg) ++ B.flatMap (·.sg)) ∧ MapV gk bpV es c (wher (A ++ ⟨k, b, sx, v⟩ :: B)) ∧ (∀ x ∈ A ++ B, At x.b x.sg x.val) ∧ what (A ++ ⟨k, b, sx, v⟩ :: B) = t
omit [DecidableEq κ] in
theorem DirRd.mono {gk : κ → Value} {Rd : List Hp → Nat → σ → Prop} {R R' : List Hp} {mb : Nat} {t : List (κ × σ)} (hm : ∀ {R R' : List Hp} {b : Nat} {v : σ}, Rd R b v → R ⊆ R' → Rd R' b v) (h : DirRd gk Rd R mb t) (hs : R ⊆ R') : DirRd gk Rd R' mb t := by
  obtain ⟨es, c, L, h1, h2, h3, h4⟩ := h
  exact ⟨es, c, L, hs h1, h2, fun x hx => hm (h3 x hx) hs, h4⟩
omit [DecidableEq κ] in
theorem DirAt.rd {gk : κ → Value} {At : Nat → List Hp → σ → Prop} {Rd : List Hp → Nat → σ → Prop} {mb : Nat} {sg : List Hp} {t : List (κ × σ)} (hm : ∀ {R R' : List Hp} {b : Nat} {v : σ}, Rd R b v → R ⊆ R' → Rd R' b v)
    (ha : ∀ {b : Nat} {sg : List Hp} {v : σ}, At b sg v → Rd sg b v) (h : DirAt gk At mb sg t) : DirRd gk Rd sg mb t := by
  obtain ⟨es, c, L, rfl, h2, h3, h4⟩ := h
  exact ⟨es, c, L, by simp, h2, fun x hx => hm (ha (h3 x hx)) fun y hy => List.mem_append_right _ (List.mem_flatMap.2 ⟨x, hx, hy⟩), h4⟩
omit [DecidableEq κ] in
theorem DirAt.new {gk : κ → Value} {At : Nat → List Hp → σ → Prop} {mb : Nat} : DirAt gk At mb [Hp.one mb (.map #[] 0)] ([] : List (κ × σ)) := ⟨#[], 0, [], by simp, MapV.nil, by simp, rfl⟩
theorem wher_get {k : κ} : ∀ {L : List (DEnt κ σ)} {b : Nat}, getB (wher L) k = some b → ∃ A v sx B, L = A ++ ⟨k, b, sx, v⟩ :: B ∧ getB (what L) k = some v
  | [], _, h => by simp [wher, getB] at h
  | x :: L, b, h => by
    rw [wher, List.map_cons, getB] at h
    by_cases e : k = x.key
    · rw [if_pos e] at h
      cases h
      refine ⟨[], x.val, x.sg, L, ?_, ?_⟩
      · rw [e]; rfl
      · rw [what, List.map_cons, getB, if_pos e]
    · rw [if_neg e] at h
      obtain ⟨A, v, sx, B, rfl, hv⟩ := wher_get (L := L) h
      refine ⟨x :: A, v, sx, B, rfl, ?_⟩
      rw [what, List.map_cons, getB, if_neg e]; exact hv
theorem wher_none {k : κ} : ∀ {L : List (DEnt κ σ)}, getB (wher L) k = none → getB (what L) k = none
  | [], _ => rfl
  | x :: L, h => by
    rw [wher, List.map_cons, getB] at h
    rw [what, List.map_cons, getB]
    split at h
    · cases h
    · rw [if_neg (by assumption)]; exact wher_none h
theorem put_mid {β : Type} {k : κ} {u v : β} : ∀ {A B : List (κ × β)}, k ∉ A.map (·.1) → putB (A ++ (k, u) :: B) k v = A ++ (k, v) :: B
  | [], B, _ => by simp [putB]
  | (a, x) :: A, B, h => by
    rw [List.map_cons, List.mem_cons, not_or] at h
    rw [List.cons_append, putB, if_neg h.1, put_mid h.2]; rfl
omit [DecidableEq κ] in
theorem what_app (A B : List (DEnt κ σ)) : what (A ++ B) = what A ++ what B := by simp [what]
omit [DecidableEq κ] in
theorem wher_app (A B : List (DEnt κ σ)) : wher (A ++ B) = wher A ++ wher B := by simp [wher]
omit [DecidableEq κ] in
theorem what_keys (L : List (DEnt κ σ)) : (what L).map (·.1) = (wher L).map (·.1) := by simp [what, wher, Function.comp_def]
omit [DecidableEq κ] in
theorem mid_notin {β : Type} {k : κ} {u : β} {A B : List (κ × β)} (h : ((A ++ (k, u) :: B).map (·.1)).Nodup) : k ∉ A.map (·.1) := by
  rw [List.map_append, List.nodup_append] at h
  intro g
  exact h.2.2 k g k (by simp) rfl
omit [DecidableEq κ] in
theorem DirAt.nodup {gk : κ → Value} {At : Nat → List Hp → σ → Prop} {mb : Nat} {sg : List Hp} {t : List (κ × σ)} (h : DirAt gk At mb sg t) : (t.map (·.1)).Nodup := by
  obtain ⟨es, c, L, _, h2, _, rfl⟩ := h
  rw [what_keys]; exact h2.nodup
omit [DecidableEq κ] in
theorem DirRd.nodup {gk : κ → Value} {Rd : List Hp → Nat → σ → Prop} {R : List Hp} {mb : Nat} {t : List (κ × σ)} (h : DirRd gk Rd R mb t) : (t.map (·.1)).Nodup := by
  obtain ⟨es, c, L, _, h2, _, rfl⟩ := h
  rw [what_keys]; exact h2.nodup
/-- The object is put back, changed or not. -/
theorem DirHole.close {gk : κ → Value} {At : Nat → List Hp → σ → Prop} {mb b : Nat} {k : κ} {sx sr : List Hp} {t : List (κ × σ)} {v : σ} {E w : World} {ss : List (List Hp)} (h : DirHole gk At mb k b sr t) (hx : At b sx v)
    (H : Has E w (sx :: sr :: ss)) : ∃ sg, DirAt gk At mb sg (putB t k v) ∧ Has E w (sg :: ss) := by
  obtain ⟨es, c, A, B, v0, sx0, rfl, h2, h3, rfl⟩ := h
  have hn : ((wher (A ++ ⟨k, b, sx0, v0⟩ :: B)).map (·.1)).Nodup := h2.nodup
  have hw : wher (A ++ ⟨k, b, sx, v⟩ :: B) = wher (A ++ ⟨k, b, sx0, v0⟩ :: B) := by simp [wher]
  refine ⟨_, ⟨es, c, A ++ ⟨k, b, sx, v⟩ :: B, rfl, by rw [hw]; exact h2, ?_, ?_⟩, ?_⟩
  · intro x hx'
    rcases List.mem_append.1 hx' with g | g
    · exact h3 x (List.mem_append_left _ g)
    · rcases List.mem_cons.1 g with rfl | g
      · exact hx
      · exact h3 x (List.mem_append_right _ g)
  · have e1 : what (A ++ ⟨k, b, sx0, v0⟩ :: B) = what A ++ (k, v0) :: what B := by simp [what]
    have e2 : what (A ++ ⟨k, b, sx, v⟩ :: B) = what A ++ (k, v) :: what B := by simp [what]
    rw [e1, e2, put_mid]
    refine mid_notin (u := v0) (B := what B) ?_
    rw [← e1, what_keys]; exact hn
  · have H' : Has E w (sx :: (([Hp.one mb (.map es c)] ++ A.flatMap (·.sg)) ++ B.flatMap (·.sg)) :: ss) := by rw [List.append_assoc]; exact H
    have := H'.mid'
    rw [List.append_assoc] at this
    simpa [List.flatMap_append] using this
theorem DirHole.get {gk : κ → Value} {At : Nat → List Hp → σ → Prop} {mb b : Nat} {k : κ} {sr : List Hp} {t : List (κ × σ)} (h : DirHole gk At mb k b sr t) : (getB t k).isSome = true := by
  obtain ⟨es, c, A, B, v0, sx0, rfl, h2, h3, rfl⟩ := h
  rw [getB_mem]; simp [what]
section ops
variable {P : Program} {ρ : Operand → Value} {E w : World} {ss : List (List Hp)} {K : Value → World → Prop} {dst : Option Tmp} {T : TypeId} {pos : String} {after : Array Edge} {g : Option (Nat × Bool)} {gk : κ → Value} {At : Nat → List Hp → σ → Prop} {Rd : List Hp → Nat → σ → Prop}
theorem valB_bp (o : Option Nat) : valB bpV (.pointer none) o = .pointer (o.map fun b => ⟨b, 0, none⟩) := by cases o <;> rfl
/-- A lookup that is read only. -/
theorem o_dirRd {x y : Operand} {t kt et : TypeId} {mb : Nat} {l : List (κ × σ)} {by_ : Nat} {k : κ} {R : List Hp} (ht : P.underlying t = some (.map kt et)) (hk : KeyAt P kt gk) (hz : TI P et (.pointer none) 1 by_)
    (hx : ρ x = .map (some mb)) (hy : ρ y = gk k) (hd : DirRd gk Rd R mb l) (H : Has E w ss) (hR : R ⊆ ss.flatten)
    (hN : getB l k = none → K (.pointer none) w) (hS : ∀ b v, getB l k = some v → Rd R b v → K (.pointer (some ⟨b, 0, none⟩)) w) :
    OK P ⟨dst, .lookup t x y false, T, pos, after, g⟩ ρ w K := by
  obtain ⟨es, c, L, h1, h2, h3, rfl⟩ := hd
  refine o_lookupB (L := [Hp.one mb (.map es c)]) ht hk hz hx hy H (fun z hz => by rw [List.mem_singleton.1 hz]; exact hR h1) rfl h2 ?_
  simp only [Bool.false_eq_true, if_false]
  cases hg : getB (wher L) k with
  | none => exact hN (wher_none hg)
  | some b =>
    obtain ⟨A, v, sx, B, e, hv⟩ := wher_get hg
    exact hS b v hv (h3 ⟨k, b, sx, v⟩ (by rw [e]; simp))
theorem o_dirRdOk {x y : Operand} {t kt et : TypeId} {mb : Nat} {l : List (κ × σ)} {by_ : Nat} {k : κ} {R : List Hp} (ht : P.underlying t = some (.map kt et)) (hk : KeyAt P kt gk) (hz : TI P et (.pointer none) 1 by_)
    (hx : ρ x = .map (some mb)) (hy : ρ y = gk k) (hd : DirRd gk Rd R mb l) (H : Has E w ss) (hR : R ⊆ ss.flatten)
    (hN : getB l k = none → K (.tuple #[.pointer none, .bool false]) w) (hS : ∀ b v, getB l k = some v → Rd R b v → K (.tuple #[.pointer (some ⟨b, 0, none⟩), .bool true]) w) :
    OK P ⟨dst, .lookup t x y true, T, pos, after, g⟩ ρ w K := by
  obtain ⟨es, c, L, h1, h2, h3, rfl⟩ := hd
  refine o_lookupB (L := [Hp.one mb (.map es c)]) ht hk hz hx hy H (fun z hz => by rw [List.mem_singleton.1 hz]; exact hR h1) rfl h2 ?_
  simp only [if_true]
  cases hg : getB (wher L) k with
  | none => exact hN (wher_none hg)
  | some b =>
    obtain ⟨A, v, sx, B, e, hv⟩ := wher_get hg
    exact hS b v hv (h3 ⟨k, b, sx, v⟩ (by rw [e]; simp))
/-- A lookup that takes the object out. -/
theorem o_dirOut {x y : Operand} {t kt et : TypeId} {mb : Nat} {l : List (κ × σ)} {by_ : Nat} {k : κ} {sg : List Hp} (ht : P.underlying t = some (.map kt et)) (hk : KeyAt P kt gk) (hz : TI P et (.pointer none) 1 by_)
    (hx : ρ x = .map (some mb)) (hy : ρ y = gk k) (hd : DirAt gk At mb sg l) (H : Has E w (sg :: ss))
    (hN : getB l k = none → K (.pointer none) w) (hS : ∀ b v sx sr, getB l k = some v → At b sx v → DirHole gk At mb k b sr l → Has E w (sx :: sr :: ss) → K (.pointer (some ⟨b, 0, none⟩)) w) :
    OK P ⟨dst, .lookup t x y false, T, pos, after, g⟩ ρ w K := by
  obtain ⟨es, c, L, rfl, h2, h3, rfl⟩ := hd
  refine o_lookupB (L := [Hp.one mb (.map es c)]) ht hk hz hx hy H (fun z hz => by rw [List.mem_singleton.1 hz]; simp) rfl h2 ?_
  simp only [Bool.false_eq_true, if_false]
  cases hg : getB (wher L) k with
  | none => exact hN (wher_none hg)
  | some b =>
    obtain ⟨A, v, sx, B, e, hv⟩ := wher_get hg
    subst e
    refine hS b v sx _ hv (h3 ⟨k, b, sx, v⟩ (by simp)) ⟨es, c, A, B, v, sx, rfl, h2, fun y hy => h3 y ?_, rfl⟩ ?_
    · rcases List.mem_append.1 hy with g | g
      · exact List.mem_append_left _ g
      · exact List.mem_append_right _ (List.mem_cons_of_mem _ g)
    · have H' : Has E w ((([Hp.one mb (.map es c)] ++ A.flatMap (·.sg)) ++ (sx ++ B.flatMap (·.sg))) :: ss) := by
        simpa [List.flatMap_append, List.append_assoc] using H
      have := H'.mid
      rw [List.append_assoc] at this
      exact this
/-- An object is put under a new key: it stays outside. -/
theorem o_dirPut {x y u : Operand} {t kt et : TypeId} {mb b : Nat} {l : List (κ × σ)} {k : κ} {sg sx : List Hp} {v : σ} (ht : P.underlying t = some (.map kt et)) (hk : KeyAt P kt gk)
    (hx : ρ x = .map (some mb)) (hy : ρ y = gk k) (hu : ρ u = .pointer (some ⟨b, 0, none⟩)) (hd : DirAt gk At mb sg l) (hn : getB l k = none) (hv : At b sx v) (H : Has E w (sg :: sx :: ss))
    (hK : ∀ sr w', DirHole gk At mb k b sr (putB l k v) → Has E w' (sx :: sr :: ss) → K undef w') : OK P ⟨dst, .mapUpdate t x y u, T, pos, after, g⟩ ρ w K := by
  obtain ⟨es, c, L, rfl, h2, h3, rfl⟩ := hd
  have hnk : k ∉ (what L).map (·.1) := fun g => by have := getB_mem.2 g; rw [hn] at this; cases this
  have hnw : getB (wher L) k = none := getB_none (by rw [← what_keys]; exact hnk)
  have hlw : ∀ {β : Type} {m : List (κ × β)} {z : β}, k ∉ m.map (·.1) → putB m k z = m ++ [(k, z)] := fun {β m z} hm => by
    induction m with
    | nil => rfl
    | cons p m ih =>
      obtain ⟨a, y⟩ := p
      rw [List.map_cons, List.mem_cons, not_or] at hm
      rw [putB, if_neg hm.1, ih hm.2]; rfl
  refine o_mapUpdateB (f := bpV) (v := b) ht hk hx hy hu (ss := L.flatMap (·.sg) :: sx :: ss) H.cut h2 fun es' c' w' he hH => ?_
  rw [hlw (by rw [← what_keys]; exact hnk)] at he
  refine hK ([Hp.one mb (.map es' c')] ++ (L.flatMap (·.sg) ++ ([] : List (DEnt κ σ)).flatMap (·.sg))) w' ⟨es', c', L, [], v, sx, rfl, by simpa [wher] using he, by simpa using h3, ?_⟩ ?_
  · rw [hlw hnk]; simp [what]
  · have h4 := hH.front 2 rfl
    have h5 : Has E w' (sx :: ([Hp.one mb (.map es' c')] ++ L.flatMap (·.sg)) :: ss) := by
      have h6 : Has E w' (sx :: [Hp.one mb (.map es' c')] :: L.flatMap (·.sg) :: ss) := h4
      unfold Has at *; simpa using h6
    simpa using h5
/-- A key is taken away; its object stays where it is, in nobody's sight. -/
theorem o_dirDel {x y : Operand} {t kt et t2 : TypeId} {mb : Nat} {l : List (κ × σ)} {k : κ} {sg : List Hp} (ht : P.underlying t = some (.map kt et)) (hk : KeyAt P kt gk)
    (hx : ρ x = .map (some mb)) (hy : ρ y = gk k) (hd : DirAt gk At mb sg l) (H : Has E w (sg :: ss))
    (hK : ∀ sg' w', DirAt gk At mb sg' (delB l k) → Has E w' (sg' :: ss) → K (.tuple #[]) w') :
    OK P ⟨dst, .call ⟨.builtin .delete, #[x, y], #[t, t2]⟩, T, pos, after, g⟩ ρ w K := by
  obtain ⟨es, c, L, rfl, h2, h3, rfl⟩ := hd
  refine o_delete ht hk hx hy (ss := L.flatMap (·.sg) :: ss) H.cut h2 fun es' c' w' he hH => ?_
  obtain ⟨L', hs, hw, ht'⟩ : ∃ L' : List (DEnt κ σ), L'.Sublist L ∧ wher L' = delB (wher L) k ∧ what L' = delB (what L) k := by
    clear h2 h3 H he hH hK
    induction L with
    | nil => exact ⟨[], .slnil, rfl, rfl⟩
    | cons z L ih =>
      by_cases e : k = z.key
      · exact ⟨L, List.sublist_cons_self _ _, by rw [wher, wher, List.map_cons, delB, if_pos e], by rw [what, what, List.map_cons, delB, if_pos e]⟩
      · obtain ⟨L', h1, h2, h3⟩ := ih
        refine ⟨z :: L', h1.cons_cons z, ?_, ?_⟩
        · rw [wher, List.map_cons, wher, List.map_cons, delB, if_neg e]; exact congrArg _ h2
        · rw [what, List.map_cons, what, List.map_cons, delB, if_neg e]; exact congrArg _ h3
  rw [← hw] at he
  refine hK _ w' ⟨es', c', L', rfl, he, fun z hz => h3 z (hs.subset hz), ht'⟩ ?_
  have hfm : ∀ {A B : List (DEnt κ σ)}, A.Sublist B → (A.flatMap (·.sg)).Sublist (B.flatMap (·.sg)) := fun h => by
    induction h with
    | slnil => exact .refl _
    | cons a _ ih => simp only [List.flatMap_cons]; exact ih.trans (List.sublist_append_right _ _)
    | cons_cons a _ ih => simp only [List.flatMap_cons]; exact List.Sublist.append (.refl _) ih
  have h6 : Has0 E w' (([Hp.one mb (.map es' c')] ++ L.flatMap (·.sg)) ++ ss.flatten) := by unfold Has at hH; simpa using hH
  have h7 := h6.weak (ks := ([Hp.one mb (.map es' c')] ++ L'.flatMap (·.sg)) ++ ss.flatten) (List.Sublist.append (List.Sublist.append (.refl _) (hfm hs)) (.refl _))
  unfold Has; simpa using h7
end ops
end
end Go.Q
namespace Go.Q
open Go.Proofs
set_option linter.unusedVariables false
set_option maxRecDepth 100000
attribute [local irreducible] wpList OK Code.wp
set_option maxHeartbeats 4000000 in
theorem hold_c {E w : World} {R : List Hp} {eb : Nat} {sg_eb : List Hp} {v : Ent} {p : Plc}  (hH : Has E w [sg_eb, R]) (h_eb : EntAt eb sg_eb v) (hn : v.hold.length ≤ 1000000) :
    Calls Try.prog 92 #[(.pointer (some ⟨eb, 0, none⟩)), (.agg #[(S p.key), (.bool p.wr), (.int .i64 p.own)])] w fun e w' => ∃ (sg_eb' : List Hp), e = .returned (.tuple #[]) ∧ (EntAt eb sg_eb' (⟨holdS v.hold p, v.line⟩ : Ent)) ∧ Has E w' [sg_eb', R] := by
  have ha_ := atS_lt v.hold p.own
  obtain ⟨x1, x2, s3, s4, rfl, f5, f6⟩ := h_eb
  have hH7 : Has E w [[Hp.one eb (.cells #[x1, x2] 168 (0, 0))], s3, s4, R] := Has.op3 hH
  refine c_enter (args := [(.pointer (some ⟨eb, 0, none⟩)), (.agg #[(S p.key), (.bool p.wr), (.int .i64 p.own)])]) Try.func92 rfl Try.ntmps92 (by simp) ?_
  refine wp_seq_k fun K8 hK8 => ?_
  refine c_region ?_
  refine s_op (o_box (cs := #[(S p.key), (.bool p.wr), (.int .i64 p.own)]) rfl rfl hH7 fun b9 w10 hH11 => ?_)
  refine s_nil ?_
  refine t_norm (hK8 _ _ ?_)
  refine wp_seq_k fun K12 hK12 => ?_
  refine wp_seq_k fun K13 hK13 => ?_
  refine Rest.region mixed (by kernel_rfl) ?_
  have hH14 : Has E { w10 with drawn := w10.drawn + 1 } [[Hp.one b9 (.cells #[(S p.key), (.bool p.wr), (.int .i64 p.own)] 170 (0, 0))], [Hp.one eb (.cells #[x1, x2] 168 (0, 0))], s3, s4, R] := Has0.drew hH11 _
  refine Rest.phaseA (fun w_ => Has E w_ [[Hp.one b9 (.cells #[(S p.key), (.bool p.wr), (.int .i64 p.own)] 170 (0, 0))], [Hp.one eb (.cells #[x1, x2] 168 (0, 0))]]) 0 6 6 rfl (by decide) (by kernel_rfl) ?_
  refine a_op 0 rfl (by kernel_rfl) (fun w_ h_ => o_move (v := (.pointer (some ⟨eb, 0, none⟩))) rfl ⟨rfl, rfl⟩) ?_
  refine a_op 1 rfl (by kernel_rfl) (fun w_ h_ => o_nilCheck rfl ⟨rfl, rfl⟩) ?_
  refine a_op 2 rfl (by kernel_rfl) (fun w_ h_ => o_fieldAddr (k := 0) (fun _ => by kernel_rfl) rfl ⟨rfl, rfl⟩) ?_
  refine a_op 3 rfl (by kernel_rfl) (fun w_ h_ => o_load1 (v := x1) Try.underlying166 rfl rfl h_ (seg_sub 1 rfl) (CellsAt.one rfl) ⟨rfl, rfl⟩) ?_
  refine a_op 4 rfl (by kernel_rfl) (fun w_ h_ => o_fieldAddr (k := 2) (fun _ => by kernel_rfl) rfl ⟨rfl, rfl⟩) ?_
  refine a_op 5 rfl (by kernel_rfl) (fun w_ h_ => o_load1 (v := (.int .i64 p.own)) Try.underlying3 rfl rfl h_ (seg_sub 0 rfl) (CellsAt.one rfl) ⟨rfl, rfl⟩) ?_
  have hH15 : Has E { w10 with drawn := w10.drawn + 1 } [[Hp.one b9 (.cells #[(S p.key), (.bool p.wr), (.int .i64 p.own)] 170 (0, 0))], [Hp.one eb (.cells #[x1, x2] 168 (0, 0))]] := ((hH14.front 1 rfl).front 1 rfl).first 2 rfl
  refine a_done (by kernel_rfl) hH15 ?_
  refine r_op 6 rfl (by kernel_rfl) (o_callf (vs := #[x1, (.int .i64 p.own)]) ca90 rfl (args2 rfl rfl) (at_c (l := v.hold) (o := p.own) hH14.all (f5.sl.mono (seg_sub 2 rfl))) ?_)
  rintro _ w18 ⟨rfl, hX16⟩
  refine ⟨_, rfl, ?_⟩
  have hH17 := hX16.of_all
  have := atS_lt v.hold p.own
  refine r_op 7 rfl (by kernel_rfl) (o_assign (v := (.int .i64 (atS v.hold p.own))) rfl ?_)
  refine Rest.done (by kernel_rfl) ?_
  refine t_norm (hK13 _ _ ?_)
  refine wp_seq_k fun K19 hK19 => ?_
  refine c_region ?_
  refine s_op (o_move (v := (.int .i64 (atS v.hold p.own))) rfl ?_)
  refine s_op (o_geq (a := atS v.hold p.own) (b := 0) rfl rfl ?_)
  refine s_nil ?_
  refine t_norm (hK19 _ _ ?_)
  refine c_cond rfl (fun h20 => ?_) (fun h20 => ?_)
  · -- 0 ≤ atS v.hold p.own
    refine wp_seq_k fun K21 hK21 => ?_
    refine Rest.region mixed (by kernel_rfl) ?_
    have hH22 : Has E { w18 with drawn := w18.drawn + 1 } [[Hp.one b9 (.cells #[(S p.key), (.bool p.wr), (.int .i64 p.own)] 170 (0, 0))], [Hp.one eb (.cells #[x1, x2] 168 (0, 0))], s3, s4, R] := Has0.drew hH17 _
    refine Rest.phaseA (fun w_ => Has E w_ [[Hp.one b9 (.cells #[(S p.key), (.bool p.wr), (.int .i64 p.own)] 170 (0, 0))], [Hp.one eb (.cells #[x1, x2] 168 (0, 0))]]) 0 6 6 rfl (by decide) (by kernel_rfl) ?_
    refine a_op 0 rfl (by kernel_rfl) (fun w_ h_ => o_move (v := (.pointer (some ⟨eb, 0, none⟩))) rfl ⟨rfl, rfl⟩) ?_
    refine a_op 1 rfl (by kernel_rfl) (fun w_ h_ => o_nilCheck rfl ⟨rfl, rfl⟩) ?_
    refine a_op 2 rfl (by kernel_rfl) (fun w_ h_ => o_fieldAddr (k := 0) (fun _ => by kernel_rfl) rfl ⟨rfl, rfl⟩) ?_
    refine a_op 3 rfl (by kernel_rfl) (fun w_ h_ => o_load1 (v := x1) Try.underlying166 rfl rfl h_ (seg_sub 1 rfl) (CellsAt.one rfl) ⟨rfl, rfl⟩) ?_
    refine a_op 4 rfl (by kernel_rfl) (fun w_ h_ => o_move (v := (.int .i64 (atS v.hold p.own))) rfl ⟨rfl, rfl⟩) ?_
    refine a_op 5 rfl (by kernel_rfl) (fun w_ h_ => o_loadN (cs := [(S p.key), (.bool p.wr), (.int .i64 p.own)]) Try.underlying170 rfl ti170 rfl h_ (seg_sub 0 rfl) (CellsAt.one rfl) ⟨rfl, rfl⟩) ?_
    have hH23 : Has E { w18 with drawn := w18.drawn + 1 } [[Hp.one b9 (.cells #[(S p.key), (.bool p.wr), (.int .i64 p.own)] 170 (0, 0))], [Hp.one eb (.cells #[x1, x2] 168 (0, 0))]] := ((hH22.front 1 rfl).front 1 rfl).first 2 rfl
    refine a_done (by kernel_rfl) hH23 ?_
    refine r_op 6 rfl (by kernel_rfl) (o_ownAddrF Try.underlying166 ti170 rfl f5 rfl (by omega) (by first | omega | (simp only [List.length_append, List.length_cons, List.length_nil, List.length_set]; omega)) fun b24 ho25 => ?_)
    refine r_eff 7 rfl (by kernel_rfl) (o_ownStoreF (f := plC) (l := v.hold) (a := p) (i := (atS v.hold p.own).toNat) plC_len ti170 rfl rfl rfl (fun u_ hu_ => (one_plC [p]) u_ (by simpa using hu_)) ho25 (by first | rfl | (simp only [List.length_append, List.length_cons, List.length_nil, List.length_set]; done) | simp) (by first | omega | (simp only [List.length_append, List.length_cons, List.length_nil, List.length_set]; omega)) (hH22.front 2 rfl) fun s26 w27 ho28 hH29 => ?_)
    refine Rest.done (by kernel_rfl) ?_
    refine t_norm (hK21 _ _ ?_)
    refine wp_ret ?_
    refine t_ret (c_ret0 Try.results92  ?_)
    have hH30 : Has E w27 [([Hp.one eb (.cells #[x1, x2] 168 (0, 0))] ++ (s26 ++ s4)), [Hp.one b9 (.cells #[(S p.key), (.bool p.wr), (.int .i64 p.own)] 170 (0, 0))], R] := Has.cl3 (((hH29.front 3 rfl).front 1 rfl).front 3 rfl)
    have hd31 : EntAt eb ([Hp.one eb (.cells #[x1, x2] 168 (0, 0))] ++ (s26 ++ s4)) (⟨(v.hold.set ((atS v.hold p.own).toNat) p), v.line⟩ : Ent) := EntAt.mk ho28 f6
    have q32 : (⟨holdS v.hold p, v.line⟩ : Ent) = (⟨(v.hold.set ((atS v.hold p.own).toNat) p), v.line⟩ : Ent) := by unfold holdS; simp only [if_pos h20]
    have hH33 : Has E w27 [([Hp.one eb (.cells #[x1, x2] 168 (0, 0))] ++ (s26 ++ s4)), R] := ((hH30.front 2 rfl).front 1 rfl).first 2 rfl
    exact ⟨_, rfl, (by rw [q32]; exact hd31), hH33⟩
  · -- not: 0 ≤ atS v.hold p.own
    refine wp_skip ?_
    refine t_norm (hK12 _ _ ?_)
    refine Rest.region mixed (by kernel_rfl) ?_
    have hH34 : Has E { w18 with drawn := w18.drawn + 1 } [[Hp.one b9 (.cells #[(S p.key), (.bool p.wr), (.int .i64 p.own)] 170 (0, 0))], [Hp.one eb (.cells #[x1, x2] 168 (0, 0))], s3, s4, R] := Has0.drew hH17 _
    refine Rest.phaseA (fun w_ => Has E w_ [[Hp.one b9 (.cells #[(S p.key), (.bool p.wr), (.int .i64 p.own)] 170 (0, 0))], [Hp.one eb (.cells #[x1, x2] 168 (0, 0))]]) 0 8 8 rfl (by decide) (by kernel_rfl) ?_
    refine a_op 0 rfl (by kernel_rfl) (fun w_ h_ => o_move (v := (.pointer (some ⟨eb, 0, none⟩))) rfl ⟨rfl, rfl⟩) ?_
    refine a_op 1 rfl (by kernel_rfl) (fun w_ h_ => o_move (v := (.pointer (some ⟨eb, 0, none⟩))) rfl ⟨rfl, rfl⟩) ?_
    refine a_op 2 rfl (by kernel_rfl) (fun w_ h_ => o_nilCheck rfl ⟨rfl, rfl⟩) ?_
    refine a_op 3 rfl (by kernel_rfl) (fun w_ h_ => o_fieldAddr (k := 0) (fun _ => by kernel_rfl) rfl ⟨rfl, rfl⟩) ?_
    refine a_op 4 rfl (by kernel_rfl) (fun w_ h_ => o_load1 (v := x1) Try.underlying166 rfl rfl h_ (seg_sub 1 rfl) (CellsAt.one rfl) ⟨rfl, rfl⟩) ?_
    refine a_op 5 rfl (by kernel_rfl) (fun w_ h_ => o_loadN (cs := [(S p.key), (.bool p.wr), (.int .i64 p.own)]) Try.underlying170 rfl ti170 rfl h_ (seg_sub 0 rfl) (CellsAt.one rfl) ⟨rfl, rfl⟩) ?_
    have hH35 : Has E { w18 with drawn := w18.drawn + 1 } [[Hp.one b9 (.cells #[(S p.key), (.bool p.wr), (.int .i64 p.own)] 170 (0, 0))], [Hp.one eb (.cells #[x1, x2] 168 (0, 0))]] := ((hH34.front 1 rfl).front 1 rfl).first 2 rfl
    refine a_w 6 rfl (by kernel_rfl) hH35 (o_buildSlice (ps := #[(0, (.agg #[(S p.key), (.bool p.wr), (.int .i64 p.own)]))]) (cells := #[(S p.key), (.bool p.wr), (.int .i64 p.own)]) Try.underlying166 ti170 (by decide) (parts1 rfl) (by kernel_rfl) hH34 fun b36 w37 hH38 => ?_)
    have hH39 : Has E w37 [[Hp.one b9 (.cells #[(S p.key), (.bool p.wr), (.int .i64 p.own)] 170 (0, 0))], [Hp.one eb (.cells #[x1, x2] 168 (0, 0))]] := ((hH38.front 2 rfl).front 2 rfl).first 2 rfl
    refine a_w 7 rfl (by kernel_rfl) hH39 (o_append Try.underlying166 ti170 rfl (by decide) rfl f5 rfl (sl_litF (f := plC) (l := [p]) plC_len rfl rfl (by simp)) (hH38.front 3 rfl) (seg_sub 0 rfl) (one_plC _) (by simp; omega) (by simp; omega) fun v40 s41 w43 ho42 hH44 => ?_)
    have ho42 : Own 170 3 v40 (v.hold ++ [p]).length ((v.hold ++ [p]).flatMap plC) s41 := ho42.appF
    have hH45 : Has E w43 [[Hp.one b9 (.cells #[(S p.key), (.bool p.wr), (.int .i64 p.own)] 170 (0, 0))], [Hp.one eb (.cells #[x1, x2] 168 (0, 0))]] := ((hH44.front 3 rfl).front 3 rfl).first 2 rfl
    refine a_done (by kernel_rfl) hH45 ?_
    refine r_op 8 rfl (by kernel_rfl) (o_nilCheck rfl ?_)
    refine r_op 9 rfl (by kernel_rfl) (o_fieldAddr (k := 0) (fun _ => by kernel_rfl) rfl ?_)
    refine r_eff 10 rfl (by kernel_rfl) (o_store1 (c' := #[v40, x2]) ti166 rfl rfl ho42.one (by simp) rfl (hH44.front 3 rfl) fun w46 hH47 => ?_)
    refine Rest.done (by kernel_rfl) ?_
    refine c_end0 Try.results92  ?_
    have hH48 : Has E w46 [([Hp.one eb (.cells #[v40, x2] 168 (0, 0))] ++ (s41 ++ s4)), [Hp.one b36 (.cells #[(S p.key), (.bool p.wr), (.int .i64 p.own)] 170 (0, 0))], [Hp.one b9 (.cells #[(S p.key), (.bool p.wr), (.int .i64 p.own)] 170 (0, 0))], R] := Has.cl3 (((hH47.front 4 rfl).front 2 rfl).front 2 rfl)
    have hd49 : EntAt eb ([Hp.one eb (.cells #[v40, x2] 168 (0, 0))] ++ (s41 ++ s4)) (⟨v.hold ++ [p], v.line⟩ : Ent) := EntAt.mk ho42 f6
    have q50 : (⟨holdS v.hold p, v.line⟩ : Ent) = (⟨v.hold ++ [p], v.line⟩ : Ent) := by unfold holdS; simp only [if_neg h20]
    have hH51 : Has E w46 [([Hp.one eb (.cells #[v40, x2] 168 (0, 0))] ++ (s41 ++ s4)), R] := ((hH48.front 3 rfl).front 1 rfl).first 2 rfl
    exact ⟨_, rfl, (by rw [q50]; exact hd49), hH51⟩
end Go.Q
namespace Go.Q
open Go.Proofs
set_option linter.unusedVariables false
set_option maxRecDepth 100000
attribute [local irreducible] wpList OK Code.wp
set_option maxHeartbeats 4000000 in
theorem pins_grow {E w : World} {R : List Hp} (g bu n cap i : Nat) (c cu : Array Value) (hH : Has E w [[Hp.one g (.cells c 170 (0, 0))], [Hp.one bu (.cells cu 170 (0, 0))], R]) (hi : i < n) (hnc : n ≤ cap) (hroom : cap < n + 1) (hcap : cap ≤ 9223372036854775807) (hcs : c.size = cap * 3) (hcu : cu.size = 3) (hbig : (n + 1) * 32 ≤ 140737488355328) (h1 : ∀ u ∈ c.toList.take (n * 3), u.oneCell' = true) (h2 : ∀ u ∈ cu.toList, u.oneCell' = true) :
    Calls Try.prog 129 #[(.slice (some ⟨g, 0, none⟩) n cap), (.int .i64 (i : Int)), (.slice (some ⟨bu, 0, none⟩) 1 1)] w fun e w' => ∃ v' hs', e = .returned v' ∧ Own 170 3 v' (n + 1) (c.toList.take (i * 3) ++ cu.toList ++ (c.toList.take (n * 3)).drop (i * 3)) hs' ∧ Has E w' [hs', R] := by
  refine c_enter (args := [(.slice (some ⟨g, 0, none⟩) n cap), (.int .i64 (i : Int)), (.slice (some ⟨bu, 0, none⟩) 1 1)]) Try.func129 rfl Try.ntmps129 (by simp) ?_
  refine wp_seq_k fun K1 hK1 => ?_
  refine c_region ?_
  refine s_op (o_assign (v := (.slice none 0 0)) rfl ?_)
  refine s_nil ?_
  refine t_norm (hK1 _ _ ?_)
  refine wp_seq_k fun K2 hK2 => ?_
  refine c_region ?_
  refine s_op (o_move (v := (.slice (some ⟨g, 0, none⟩) n cap)) rfl ?_)
  refine s_op (o_move (v := (.int .i64 (i : Int))) rfl ?_)
  obtain ⟨o3, n4, c5, ho9, hn6, hc7⟩ := rsl_ex3 0 3 (i := (i : Int)) (j := ((n : Nat) : Int)) (m := ((cap : Nat) : Int)) (by omega) (by omega) (by omega)
  refine s_op (o_rsl2 (i := (i : Int)) (j := ((n : Nat) : Int)) (m := ((cap : Nat) : Int)) Try.underlying166 ti170 rfl (bounds_l (n := n) (cap := cap) (i := (i : Int)) (by omega) (by omega)) (by omega) (by omega) (by omega) (off3 ho9 (by omega)) hn6 hc7 ?_)
  refine s_nil ?_
  refine t_norm (hK2 _ _ ?_)
  refine wp_seq_k fun K10 hK10 => ?_
  refine c_region ?_
  refine s_op (o_move (v := (.slice (some ⟨bu, 0, none⟩) 1 1)) rfl ?_)
  refine s_op (o_len Try.underlying166 rfl ?_)
  refine s_op (o_assign (v := (.int .i64 (1 : Int))) rfl ?_)
  refine s_nil ?_
  refine t_norm (hK10 _ _ ?_)
  refine wp_seq_k fun K11 hK11 => ?_
  refine wp_seq_k fun K12 hK12 => ?_
  refine c_region ?_
  refine s_op (o_move (v := (.int .i64 (1 : Int))) rfl ?_)
  refine s_op (o_eql (a := (1 : Int)) (b := 0) rfl rfl ?_)
  refine s_nil ?_
  refine t_norm (hK12 _ _ ?_)
  refine c_cond rfl (fun h13 => ?_) (fun h13 => ?_)
  · -- (1 : Int) = 0
    exfalso; omega
  · -- not: (1 : Int) = 0
    refine wp_skip ?_
    refine t_norm (hK11 _ _ ?_)
    refine wp_seq_k fun K14 hK14 => ?_
    refine c_region ?_
    refine s_op (o_move (v := (.slice (some ⟨g, 0, none⟩) n cap)) rfl ?_)
    refine s_op (o_len Try.underlying166 rfl ?_)
    refine s_op (o_assign (v := (.int .i64 (n : Int))) rfl ?_)
    refine s_nil ?_
    refine t_norm (hK14 _ _ ?_)
    refine wp_seq_k fun K15 hK15 => ?_
    refine wp_seq_k fun K16 hK16 => ?_
    refine c_region ?_
    refine s_op (o_move (v := (.int .i64 (i : Int))) rfl ?_)
    refine s_op (o_move (v := (.int .i64 (n : Int))) rfl ?_)
    refine s_op (o_eql (a := (i : Int)) (b := (n : Int)) rfl rfl ?_)
    refine s_nil ?_
    refine t_norm (hK16 _ _ ?_)
    refine c_cond rfl (fun h17 => ?_) (fun h17 => ?_)
    · -- (i : Int) = (n : Int)
      exfalso; omega
    · -- not: (i : Int) = (n : Int)
      refine wp_skip ?_
      refine t_norm (hK15 _ _ ?_)
      refine wp_seq_k fun K18 hK18 => ?_
      refine wp_seq_k fun K19 hK19 => ?_
      refine c_region ?_
      refine s_op (o_move (v := (.int .i64 (n : Int))) rfl ?_)
      refine s_op (o_move (v := (.int .i64 (1 : Int))) rfl ?_)
      refine s_op (o_add (a := (n : Int)) (b := (1 : Int)) rfl rfl (w64 (by omega) (by omega)) ?_)
      refine s_op (o_move (v := (.slice (some ⟨g, 0, none⟩) n cap)) rfl ?_)
      refine s_op (o_cap Try.underlying166 rfl ?_)
      refine s_op (o_gtr (a := (n : Int) + (1 : Int)) (b := (cap : Int)) rfl rfl ?_)
      refine s_nil ?_
      refine t_norm (hK19 _ _ ?_)
      refine c_cond rfl (fun h20 => ?_) (fun h20 => ?_)
      · -- (cap : Int) < (n : Int) + (1 : Int)
        refine wp_seq_k fun K21 hK21 => ?_
        refine c_region ?_
        refine s_op (o_move (v := (.slice (some ⟨g, 0, none⟩) n cap)) rfl ?_)
        refine s_op (o_move (v := (.int .i64 (i : Int))) rfl ?_)
        obtain ⟨o22, n23, c24, ho28, hn25, hc26⟩ := rsl_ex3 0 3 (i := 0) (j := (i : Int)) (m := ((cap : Nat) : Int)) (by omega) (by omega) (by omega)
        refine s_op (o_rsl2 (i := 0) (j := (i : Int)) (m := ((cap : Nat) : Int)) Try.underlying166 ti170 rfl (bounds_h (n := n) (cap := cap) (j := (i : Int)) (by omega) (by omega)) (by omega) (by omega) (by omega) (off3 ho28 (by omega)) hn25 hc26 ?_)
        refine s_op (o_move (v := (.int .i64 (n : Int))) rfl ?_)
        refine s_op (o_move (v := (.int .i64 (1 : Int))) rfl ?_)
        refine s_op (o_add (a := (n : Int)) (b := (1 : Int)) rfl rfl (w64 (by omega) (by omega)) ?_)
        refine s_op (o_move (v := (.int .i64 (i : Int))) rfl ?_)
        refine s_op (o_sub (a := (n : Int) + (1 : Int)) (b := (i : Int)) rfl rfl (w64 (by omega) (by omega)) ?_)
        refine s_op (o_appmake (m := (((n : Int) + (1 : Int)) - (i : Int)).toNat) (cs := (c.toList.drop o22).take (n23 * 3)) Try.underlying166 Try.underlying3 ti170 rfl (by decide) rfl (sl_raw (b := g) (o := o22) (sz := 3) (n := n23) (cap := c24) (c := c) (e := 170) (g := (0, 0)) (by omega) (by omega) (by omega)) rfl (by omega) hH (seg_sub 0 rfl) (by omega) (by omega) (by omega) fun b38 c39 p40 w41 hs43 hr44 hm45 ht46 hH42 => ?_)
        refine s_op (o_assign (v := (.slice (some ⟨b38, 0, none⟩) (n23 + (((n : Int) + (1 : Int)) - (i : Int)).toNat) p40)) rfl ?_)
        refine s_nil ?_
        refine t_norm (hK21 _ _ ?_)
        refine wp_seq_k fun K47 hK47 => ?_
        refine c_region ?_
        refine s_op (o_move (v := (.slice (some ⟨b38, 0, none⟩) (n23 + (((n : Int) + (1 : Int)) - (i : Int)).toNat) p40)) rfl ?_)
        refine s_op (o_move (v := (.int .i64 (i : Int))) rfl ?_)
        obtain ⟨o48, n49, c50, ho54, hn51, hc52⟩ := rsl_ex3 0 3 (i := (i : Int)) (j := (((n23 + (((n : Int) + (1 : Int)) - (i : Int)).toNat) : Nat) : Int)) (m := ((p40 : Nat) : Int)) (by omega) (by omega) (by omega)
        refine s_op (o_rsl2 (i := (i : Int)) (j := (((n23 + (((n : Int) + (1 : Int)) - (i : Int)).toNat) : Nat) : Int)) (m := ((p40 : Nat) : Int)) Try.underlying166 ti170 rfl (bounds_l (n := (n23 + (((n : Int) + (1 : Int)) - (i : Int)).toNat)) (cap := p40) (i := (i : Int)) (by omega) (by omega)) (by omega) (by omega) (by omega) (off3 ho54 (by omega)) hn51 hc52 ?_)
        refine s_op (o_move (v := (.slice (some ⟨bu, 0, none⟩) 1 1)) rfl ?_)
        refine s_op (o_copy (ds := (cu.toList.drop 0).take (1 * 3)) Try.underlying166 ti170 rfl rfl (sl_raw (b := bu) (o := 0) (sz := 3) (n := 1) (cap := 1) (c := cu) (e := 170) (g := (0, 0)) (by omega) (by omega) (by omega)) hH42 (seg_sub 2 rfl) (by omega) (fun u hu => by exact h2 u (List.mem_of_mem_drop (List.mem_of_mem_take (List.mem_of_mem_take hu)))) fun c55 w56 hz59 hc57 hH58 => ?_)
        refine s_nil ?_
        refine t_norm (hK47 _ _ ?_)
        refine wp_seq_k fun K60 hK60 => ?_
        refine Rest.region mixed (by kernel_rfl) ?_
        have hH61 : Has E { w56 with drawn := w56.drawn + 1 } [[Hp.one b38 (.cells c55 170 (0, 0))], [Hp.one g (.cells c 170 (0, 0))], [Hp.one bu (.cells cu 170 (0, 0))], R] := Has0.drew hH58 _
        refine Rest.phaseA (fun w_ => Has E w_ []) 0 8 8 rfl (by decide) (by kernel_rfl) ?_
        refine a_op 0 rfl (by kernel_rfl) (fun w_ h_ => o_move (v := (.slice (some ⟨b38, 0, none⟩) (n23 + (((n : Int) + (1 : Int)) - (i : Int)).toNat) p40)) rfl ⟨rfl, rfl⟩) ?_
        refine a_op 1 rfl (by kernel_rfl) (fun w_ h_ => o_move (v := (.int .i64 (i : Int))) rfl ⟨rfl, rfl⟩) ?_
        refine a_op 2 rfl (by kernel_rfl) (fun w_ h_ => o_move (v := (.int .i64 (1 : Int))) rfl ⟨rfl, rfl⟩) ?_
        refine a_op 3 rfl (by kernel_rfl) (fun w_ h_ => o_add (a := (i : Int)) (b := (1 : Int)) rfl rfl (w64 (by omega) (by omega)) ⟨rfl, rfl⟩) ?_
        obtain ⟨o62, n63, c64, ho68, hn65, hc66⟩ := rsl_ex3 0 3 (i := (i : Int) + (1 : Int)) (j := (((n23 + (((n : Int) + (1 : Int)) - (i : Int)).toNat) : Nat) : Int)) (m := ((p40 : Nat) : Int)) (by omega) (by omega) (by omega)
        refine a_op 4 rfl (by kernel_rfl) (fun w_ h_ => o_rsl2 (i := (i : Int) + (1 : Int)) (j := (((n23 + (((n : Int) + (1 : Int)) - (i : Int)).toNat) : Nat) : Int)) (m := ((p40 : Nat) : Int)) Try.underlying166 ti170 rfl (bounds_l (n := (n23 + (((n : Int) + (1 : Int)) - (i : Int)).toNat)) (cap := p40) (i := (i : Int) + (1 : Int)) (by omega) (by omega)) (by omega) (by omega) (by omega) (off3 ho68 (by omega)) hn65 hc66 ⟨rfl, rfl⟩) ?_
        refine a_op 5 rfl (by kernel_rfl) (fun w_ h_ => o_move (v := (.slice (some ⟨g, 0, none⟩) n cap)) rfl ⟨rfl, rfl⟩) ?_
        refine a_op 6 rfl (by kernel_rfl) (fun w_ h_ => o_move (v := (.int .i64 (i : Int))) rfl ⟨rfl, rfl⟩) ?_
        obtain ⟨o69, n70, c71, ho75, hn72, hc73⟩ := rsl_ex3 0 3 (i := (i : Int)) (j := ((n : Nat) : Int)) (m := ((cap : Nat) : Int)) (by omega) (by omega) (by omega)
        refine a_op 7 rfl (by kernel_rfl) (fun w_ h_ => o_rsl2 (i := (i : Int)) (j := ((n : Nat) : Int)) (m := ((cap : Nat) : Int)) Try.underlying166 ti170 rfl (bounds_l (n := n) (cap := cap) (i := (i : Int)) (by omega) (by omega)) (by omega) (by omega) (by omega) (off3 ho75 (by omega)) hn72 hc73 ⟨rfl, rfl⟩) ?_
        have hH76 : Has E { w56 with drawn := w56.drawn + 1 } [] := hH61.first 0 rfl
        refine a_done (by kernel_rfl) hH76 ?_
        refine r_op 8 rfl (by kernel_rfl) (o_copy (ds := (c.toList.drop o69).take (n70 * 3)) Try.underlying166 ti170 rfl rfl (sl_raw (b := g) (o := o69) (sz := 3) (n := n70) (cap := c71) (c := c) (e := 170) (g := (0, 0)) (by omega) (by omega) (by omega)) hH61 (seg_sub 1 rfl) (by omega) (fun u hu => by exact h1 u (mem_part hu (by omega))) fun c77 w78 hz81 hc79 hH80 => ?_)
        refine Rest.done (by kernel_rfl) ?_
        refine t_norm (hK60 _ _ ?_)
        refine wp_seq_k fun K82 hK82 => ?_
        refine c_region ?_
        refine s_op (o_move (v := (.slice (some ⟨b38, 0, none⟩) (n23 + (((n : Int) + (1 : Int)) - (i : Int)).toNat) p40)) rfl ?_)
        refine s_op (o_assign (v := (.slice (some ⟨b38, 0, none⟩) (n23 + (((n : Int) + (1 : Int)) - (i : Int)).toNat) p40)) rfl ?_)
        refine s_nil ?_
        refine t_norm (hK82 _ _ ?_)
        refine wp_ret ?_
        refine t_ret (c_ret1 Try.results129  (v := (.slice (some ⟨b38, 0, none⟩) (n23 + (((n : Int) + (1 : Int)) - (i : Int)).toNat) p40)) rfl ?_)
        have hH83 : Has E w78 [[Hp.one b38 (.cells c77 170 (0, 0))], R] := ((hH80.front 3 rfl).front 1 rfl).first 2 rfl
        rw [if_pos (by omega)] at hc57
        rw [if_pos (by omega)] at hc79
        refine ⟨_, _, rfl, ⟨?_, .inr ⟨b38, p40, c77, by rw [show (n23 + (((n : Int) + (1 : Int)) - (i : Int)).toNat) = n + 1 from by omega, show (0 : Nat) = 0 from by omega], rfl, by omega, by simp only [maxLen]; omega, by omega, ?_⟩⟩, hH83⟩
        · rw [show (n + 1) * 3 = n * 3 + 3 from by omega]; exact ins_len (by simp only [Array.length_toList]; omega) (by omega) (by simp only [Array.length_toList]; omega)
        · rw [show (n + 1) * 3 = n * 3 + 3 from by omega]; exact insA ht46 hc57 hc79 (by omega) (by omega) (by omega) (by omega) (by omega) (by omega) (by omega) (by omega) (by omega) (by omega) (by omega) (by simp only [Array.length_toList]; omega) (by omega) (by simp only [Array.length_toList]; omega) (by simp only [Array.length_toList]; omega)
      · -- not: (cap : Int) < (n : Int) + (1 : Int)
        exfalso; omega
set_option maxHeartbeats 4000000 in
theorem pins_room {E w : World} {R : List Hp} (g bu n cap i : Nat) (c cu : Array Value) (hH : Has E w [[Hp.one g (.cells c 170 (0, 0))], [Hp.one bu (.cells cu 170 (0, 0))], R]) (hi : i < n) (hnc : n ≤ cap) (hroom : n + 1 ≤ cap) (hcap : cap ≤ 9223372036854775807) (hcs : c.size = cap * 3) (hcu : cu.size = 3) (hbig : (n + 1) * 32 ≤ 140737488355328) (h1 : ∀ u ∈ c.toList.take (n * 3), u.oneCell' = true) (h2 : ∀ u ∈ cu.toList, u.oneCell' = true) :
    Calls Try.prog 129 #[(.slice (some ⟨g, 0, none⟩) n cap), (.int .i64 (i : Int)), (.slice (some ⟨bu, 0, none⟩) 1 1)] w fun e w' => ∃ v' hs', e = .returned v' ∧ Own 170 3 v' (n + 1) (c.toList.take (i * 3) ++ cu.toList ++ (c.toList.take (n * 3)).drop (i * 3)) hs' ∧ Has E w' [hs', R] := by
  refine c_enter (args := [(.slice (some ⟨g, 0, none⟩) n cap), (.int .i64 (i : Int)), (.slice (some ⟨bu, 0, none⟩) 1 1)]) Try.func129 rfl Try.ntmps129 (by simp) ?_
  refine wp_seq_k fun K1 hK1 => ?_
  refine c_region ?_
  refine s_op (o_assign (v := (.slice none 0 0)) rfl ?_)
  refine s_nil ?_
  refine t_norm (hK1 _ _ ?_)
  refine wp_seq_k fun K2 hK2 => ?_
  refine c_region ?_
  refine s_op (o_move (v := (.slice (some ⟨g, 0, none⟩) n cap)) rfl ?_)
  refine s_op (o_move (v := (.int .i64 (i : Int))) rfl ?_)
  obtain ⟨o3, n4, c5, ho9, hn6, hc7⟩ := rsl_ex3 0 3 (i := (i : Int)) (j := ((n : Nat) : Int)) (m := ((cap : Nat) : Int)) (by omega) (by omega) (by omega)
  refine s_op (o_rsl2 (i := (i : Int)) (j := ((n : Nat) : Int)) (m := ((cap : Nat) : Int)) Try.underlying166 ti170 rfl (bounds_l (n := n) (cap := cap) (i := (i : Int)) (by omega) (by omega)) (by omega) (by omega) (by omega) (off3 ho9 (by omega)) hn6 hc7 ?_)
  refine s_nil ?_
  refine t_norm (hK2 _ _ ?_)
  refine wp_seq_k fun K10 hK10 => ?_
  refine c_region ?_
  refine s_op (o_move (v := (.slice (some ⟨bu, 0, none⟩) 1 1)) rfl ?_)
  refine s_op (o_len Try.underlying166 rfl ?_)
  refine s_op (o_assign (v := (.int .i64 (1 : Int))) rfl ?_)
  refine s_nil ?_
  refine t_norm (hK10 _ _ ?_)
  refine wp_seq_k fun K11 hK11 => ?_
  refine wp_seq_k fun K12 hK12 => ?_
  refine c_region ?_
  refine s_op (o_move (v := (.int .i64 (1 : Int))) rfl ?_)
  refine s_op (o_eql (a := (1 : Int)) (b := 0) rfl rfl ?_)
  refine s_nil ?_
  refine t_norm (hK12 _ _ ?_)
  refine c_cond rfl (fun h13 => ?_) (fun h13 => ?_)
  · -- (1 : Int) = 0
    exfalso; omega
  · -- not: (1 : Int) = 0
    refine wp_skip ?_
    refine t_norm (hK11 _ _ ?_)
    refine wp_seq_k fun K14 hK14 => ?_
    refine c_region ?_
    refine s_op (o_move (v := (.slice (some ⟨g, 0, none⟩) n cap)) rfl ?_)
    refine s_op (o_len Try.underlying166 rfl ?_)
    refine s_op (o_assign (v := (.int .i64 (n : Int))) rfl ?_)
    refine s_nil ?_
    refine t_norm (hK14 _ _ ?_)
    refine wp_seq_k fun K15 hK15 => ?_
    refine wp_seq_k fun K16 hK16 => ?_
    refine c_region ?_
    refine s_op (o_move (v := (.int .i64 (i : Int))) rfl ?_)
    refine s_op (o_move (v := (.int .i64 (n : Int))) rfl ?_)
    refine s_op (o_eql (a := (i : Int)) (b := (n : Int)) rfl rfl ?_)
    refine s_nil ?_
    refine t_norm (hK16 _ _ ?_)
    refine c_cond rfl (fun h17 => ?_) (fun h17 => ?_)
    · -- (i : Int) = (n : Int)
      exfalso; omega
    · -- not: (i : Int) = (n : Int)
      refine wp_skip ?_
      refine t_norm (hK15 _ _ ?_)
      refine wp_seq_k fun K18 hK18 => ?_
      refine wp_seq_k fun K19 hK19 => ?_
      refine c_region ?_
      refine s_op (o_move (v := (.int .i64 (n : Int))) rfl ?_)
      refine s_op (o_move (v := (.int .i64 (1 : Int))) rfl ?_)
      refine s_op (o_add (a := (n : Int)) (b := (1 : Int)) rfl rfl (w64 (by omega) (by omega)) ?_)
      refine s_op (o_move (v := (.slice (some ⟨g, 0, none⟩) n cap)) rfl ?_)
      refine s_op (o_cap Try.underlying166 rfl ?_)
      refine s_op (o_gtr (a := (n : Int) + (1 : Int)) (b := (cap : Int)) rfl rfl ?_)
      refine s_nil ?_
      refine t_norm (hK19 _ _ ?_)
      refine c_cond rfl (fun h20 => ?_) (fun h20 => ?_)
      · -- (cap : Int) < (n : Int) + (1 : Int)
        exfalso; omega
      · -- not: (cap : Int) < (n : Int) + (1 : Int)
        refine wp_skip ?_
        refine t_norm (hK18 _ _ ?_)
        refine wp_seq_k fun K21 hK21 => ?_
        refine c_region ?_
        refine s_op (o_move (v := (.slice (some ⟨g, 0, none⟩) n cap)) rfl ?_)
        refine s_op (o_move (v := (.int .i64 (n : Int))) rfl ?_)
        refine s_op (o_move (v := (.int .i64 (1 : Int))) rfl ?_)
        refine s_op (o_add (a := (n : Int)) (b := (1 : Int)) rfl rfl (w64 (by omega) (by omega)) ?_)
        obtain ⟨o22, n23, c24, ho28, hn25, hc26⟩ := rsl_ex3 0 3 (i := 0) (j := (n : Int) + (1 : Int)) (m := ((cap : Nat) : Int)) (by omega) (by omega) (by omega)
        refine s_op (o_rsl2 (i := 0) (j := (n : Int) + (1 : Int)) (m := ((cap : Nat) : Int)) Try.underlying166 ti170 rfl (bounds_h (n := n) (cap := cap) (j := (n : Int) + (1 : Int)) (by omega) (by omega)) (by omega) (by omega) (by omega) (off3 ho28 (by omega)) hn25 hc26 ?_)
        refine s_op (o_assign (v := (.slice (some ⟨g, o22, none⟩) n23 c24)) rfl ?_)
        refine s_nil ?_
        refine t_norm (hK21 _ _ ?_)
        refine wp_seq_k fun K29 hK29 => ?_
        refine wp_seq_k fun K30 hK30 => ?_
        refine c_region ?_
        refine s_op (o_move (v := (.slice (some ⟨bu, 0, none⟩) 1 1)) rfl ?_)
        refine s_op (o_move (v := (.slice (some ⟨g, o22, none⟩) n23 c24)) rfl ?_)
        refine s_op (o_move (v := (.int .i64 (i : Int))) rfl ?_)
        refine s_op (o_move (v := (.int .i64 (1 : Int))) rfl ?_)
        refine s_op (o_add (a := (i : Int)) (b := (1 : Int)) rfl rfl (w64 (by omega) (by omega)) ?_)
        obtain ⟨o31, n32, c33, ho37, hn34, hc35⟩ := rsl_ex3 o22 3 (i := (i : Int) + (1 : Int)) (j := ((n23 : Nat) : Int)) (m := ((c24 : Nat) : Int)) (by omega) (by omega) (by omega)
        refine s_op (o_rsl2 (i := (i : Int) + (1 : Int)) (j := ((n23 : Nat) : Int)) (m := ((c24 : Nat) : Int)) Try.underlying166 ti170 rfl (bounds_l (n := n23) (cap := c24) (i := (i : Int) + (1 : Int)) (by omega) (by omega)) (by omega) (by omega) (by omega) (off3 ho37 (by omega)) hn34 hc35 ?_)
        refine s_op (o_overlaps (tR := 4) Try.func164 (by kernel_rfl) (by kernel_rfl) (by kernel_rfl) (by kernel_rfl) Try.underlying166 ti170 rfl rfl (hH.front 1 rfl) (by omega) rfl ?_)
        refine s_op (o_not rfl ?_)
        refine s_nil ?_
        refine t_norm (hK30 _ _ ?_)
        refine c_true rfl rfl ?_
        refine wp_seq_k fun K38 hK38 => ?_
        refine Rest.region mixed (by kernel_rfl) ?_
        have hH39 : Has E { w with drawn := w.drawn + 1 } [[Hp.one g (.cells c 170 (0, 0))], [Hp.one bu (.cells cu 170 (0, 0))], R] := Has0.drew hH _
        refine Rest.phaseA (fun w_ => Has E w_ []) 0 8 8 rfl (by decide) (by kernel_rfl) ?_
        refine a_op 0 rfl (by kernel_rfl) (fun w_ h_ => o_move (v := (.slice (some ⟨g, o22, none⟩) n23 c24)) rfl ⟨rfl, rfl⟩) ?_
        refine a_op 1 rfl (by kernel_rfl) (fun w_ h_ => o_move (v := (.int .i64 (i : Int))) rfl ⟨rfl, rfl⟩) ?_
        refine a_op 2 rfl (by kernel_rfl) (fun w_ h_ => o_move (v := (.int .i64 (1 : Int))) rfl ⟨rfl, rfl⟩) ?_
        refine a_op 3 rfl (by kernel_rfl) (fun w_ h_ => o_add (a := (i : Int)) (b := (1 : Int)) rfl rfl (w64 (by omega) (by omega)) ⟨rfl, rfl⟩) ?_
        obtain ⟨o40, n41, c42, ho46, hn43, hc44⟩ := rsl_ex3 o22 3 (i := (i : Int) + (1 : Int)) (j := ((n23 : Nat) : Int)) (m := ((c24 : Nat) : Int)) (by omega) (by omega) (by omega)
        refine a_op 4 rfl (by kernel_rfl) (fun w_ h_ => o_rsl2 (i := (i : Int) + (1 : Int)) (j := ((n23 : Nat) : Int)) (m := ((c24 : Nat) : Int)) Try.underlying166 ti170 rfl (bounds_l (n := n23) (cap := c24) (i := (i : Int) + (1 : Int)) (by omega) (by omega)) (by omega) (by omega) (by omega) (off3 ho46 (by omega)) hn43 hc44 ⟨rfl, rfl⟩) ?_
        refine a_op 5 rfl (by kernel_rfl) (fun w_ h_ => o_move (v := (.slice (some ⟨g, o22, none⟩) n23 c24)) rfl ⟨rfl, rfl⟩) ?_
        refine a_op 6 rfl (by kernel_rfl) (fun w_ h_ => o_move (v := (.int .i64 (i : Int))) rfl ⟨rfl, rfl⟩) ?_
        obtain ⟨o47, n48, c49, ho53, hn50, hc51⟩ := rsl_ex3 o22 3 (i := (i : Int)) (j := ((n23 : Nat) : Int)) (m := ((c24 : Nat) : Int)) (by omega) (by omega) (by omega)
        refine a_op 7 rfl (by kernel_rfl) (fun w_ h_ => o_rsl2 (i := (i : Int)) (j := ((n23 : Nat) : Int)) (m := ((c24 : Nat) : Int)) Try.underlying166 ti170 rfl (bounds_l (n := n23) (cap := c24) (i := (i : Int)) (by omega) (by omega)) (by omega) (by omega) (by omega) (off3 ho53 (by omega)) hn50 hc51 ⟨rfl, rfl⟩) ?_
        have hH54 : Has E { w with drawn := w.drawn + 1 } [] := hH39.first 0 rfl
        refine a_done (by kernel_rfl) hH54 ?_
        refine r_op 8 rfl (by kernel_rfl) (o_copy (ds := (c.toList.drop o47).take (n48 * 3)) Try.underlying166 ti170 rfl rfl (sl_raw (b := g) (o := o47) (sz := 3) (n := n48) (cap := c49) (c := c) (e := 170) (g := (0, 0)) (by omega) (by omega) (by omega)) hH39 sub_l (by omega) (fun u hu => by exact h1 u (mem_part hu (by omega))) fun c55 w56 hz59 hc57 hH58 => ?_)
        refine Rest.done (by kernel_rfl) ?_
        refine t_norm (hK38 _ _ ?_)
        refine wp_seq_k fun K60 hK60 => ?_
        refine c_region ?_
        refine s_op (o_move (v := (.slice (some ⟨g, o22, none⟩) n23 c24)) rfl ?_)
        refine s_op (o_move (v := (.int .i64 (i : Int))) rfl ?_)
        obtain ⟨o61, n62, c63, ho67, hn64, hc65⟩ := rsl_ex3 o22 3 (i := (i : Int)) (j := ((n23 : Nat) : Int)) (m := ((c24 : Nat) : Int)) (by omega) (by omega) (by omega)
        refine s_op (o_rsl2 (i := (i : Int)) (j := ((n23 : Nat) : Int)) (m := ((c24 : Nat) : Int)) Try.underlying166 ti170 rfl (bounds_l (n := n23) (cap := c24) (i := (i : Int)) (by omega) (by omega)) (by omega) (by omega) (by omega) (off3 ho67 (by omega)) hn64 hc65 ?_)
        refine s_op (o_move (v := (.slice (some ⟨bu, 0, none⟩) 1 1)) rfl ?_)
        refine s_op (o_copy (ds := (cu.toList.drop 0).take (1 * 3)) Try.underlying166 ti170 rfl rfl (sl_raw (b := bu) (o := 0) (sz := 3) (n := 1) (cap := 1) (c := cu) (e := 170) (g := (0, 0)) (by omega) (by omega) (by omega)) hH58 (seg_sub 1 rfl) (by omega) (fun u hu => by exact h2 u (List.mem_of_mem_drop (List.mem_of_mem_take (List.mem_of_mem_take hu)))) fun c68 w69 hz72 hc70 hH71 => ?_)
        refine s_nil ?_
        refine t_norm (hK60 _ _ ?_)
        refine wp_seq_k fun K73 hK73 => ?_
        refine c_region ?_
        refine s_op (o_move (v := (.slice (some ⟨g, o22, none⟩) n23 c24)) rfl ?_)
        refine s_op (o_assign (v := (.slice (some ⟨g, o22, none⟩) n23 c24)) rfl ?_)
        refine s_nil ?_
        refine t_norm (hK73 _ _ ?_)
        refine wp_ret ?_
        refine t_ret (c_ret1 Try.results129  (v := (.slice (some ⟨g, o22, none⟩) n23 c24)) rfl ?_)
        have hH74 : Has E w69 [[Hp.one g (.cells c68 170 (0, 0))], R] := ((hH71.front 2 rfl).front 1 rfl).first 2 rfl
        rw [if_pos (by omega)] at hc57
        rw [if_pos (by omega)] at hc70
        refine ⟨_, _, rfl, ⟨?_, .inr ⟨g, c24, c68, by rw [show n23 = n + 1 from by omega, show (o22 : Nat) = 0 from by omega], rfl, by omega, by simp only [maxLen]; omega, by omega, ?_⟩⟩, hH74⟩
        · rw [show (n + 1) * 3 = n * 3 + 3 from by omega]; exact ins_len (by simp only [Array.length_toList]; omega) (by omega) (by simp only [Array.length_toList]; omega)
        · rw [show (n + 1) * 3 = n * 3 + 3 from by omega]; exact insB hc57 hc70 (by omega) (by omega) (by omega) (by omega) (by omega) (by omega) (by omega) (by omega) (by omega) (by simp only [Array.length_toList]; omega) (by omega) (by simp only [Array.length_toList]; omega)
set_option maxHeartbeats 4000000 in
theorem pins_end {E w : World} {R hs : List Hp} {v : Value} {l : List Plc} {x : Plc} {bu : Nat} (hH : Has E w [hs, [Hp.one bu (.cells #[(S x.key), (.bool x.wr), (.int .i64 x.own)] 170 (0, 0))], R]) (ho : Own 170 3 v l.length (l.flatMap plC) hs) (hl : l.length ≤ 1000000) :
    Calls Try.prog 129 #[v, (.int .i64 (l.length : Int)), (.slice (some ⟨bu, 0, none⟩) 1 1)] w fun e w' => ∃ v' hs', e = .returned v' ∧ Own 170 3 v' (l ++ [x]).length ((l ++ [x]).flatMap plC) hs' ∧ Has E w' [hs', R] := by
  have hu : Sl [Hp.one bu (.cells #[(S x.key), (.bool x.wr), (.int .i64 x.own)] 170 (0, 0))] 3 (.slice (some ⟨bu, 0, none⟩) 1 1) ([x] : List Plc).length ([x].flatMap plC) := (sl_litF (f := plC) (l := [x]) plC_len rfl rfl (by decide))
  refine c_enter (args := [v, (.int .i64 (l.length : Int)), (.slice (some ⟨bu, 0, none⟩) 1 1)]) Try.func129 rfl Try.ntmps129 (by simp) ?_
  refine wp_seq_k fun K1 hK1 => ?_
  refine c_region ?_
  refine s_op (o_assign (v := (.slice none 0 0)) rfl ?_)
  refine s_nil ?_
  refine t_norm (hK1 _ _ ?_)
  refine wp_seq_k fun K2 hK2 => ?_
  refine c_region ?_
  refine s_op (o_move (v := v) rfl ?_)
  refine s_op (o_move (v := (.int .i64 (l.length : Int))) rfl ?_)
  refine s_op (o_sl_l Try.underlying166 ti170 rfl ho.sl rfl (by omega) (by omega) fun v3 hv4 => ?_)
  have hv5 := sl_dropF plC_len hv4
  refine s_nil ?_
  refine t_norm (hK2 _ _ ?_)
  refine wp_seq_k fun K6 hK6 => ?_
  refine c_region ?_
  refine s_op (o_move (v := (.slice (some ⟨bu, 0, none⟩) 1 1)) rfl ?_)
  refine s_op (o_lenS Try.underlying166 rfl hu ?_)
  refine s_op (o_assign (v := (.int .i64 ((1 : Nat) : Int))) rfl ?_)
  refine s_nil ?_
  refine t_norm (hK6 _ _ ?_)
  refine wp_seq_k fun K7 hK7 => ?_
  refine wp_seq_k fun K8 hK8 => ?_
  refine c_region ?_
  refine s_op (o_move (v := (.int .i64 ((1 : Nat) : Int))) rfl ?_)
  refine s_op (o_eql (a := ((1 : Nat) : Int)) (b := 0) rfl rfl ?_)
  refine s_nil ?_
  refine t_norm (hK8 _ _ ?_)
  refine c_cond rfl (fun h9 => ?_) (fun h9 => ?_)
  · -- ((1 : Nat) : Int) = 0
    exfalso; omega
  · -- not: ((1 : Nat) : Int) = 0
    refine wp_skip ?_
    refine t_norm (hK7 _ _ ?_)
    refine wp_seq_k fun K10 hK10 => ?_
    refine c_region ?_
    refine s_op (o_move (v := v) rfl ?_)
    refine s_op (o_lenS Try.underlying166 rfl ho.sl ?_)
    refine s_op (o_assign (v := (.int .i64 ((l.length : Nat) : Int))) rfl ?_)
    refine s_nil ?_
    refine t_norm (hK10 _ _ ?_)
    refine wp_seq_k fun K11 hK11 => ?_
    refine wp_seq_k fun K12 hK12 => ?_
    refine c_region ?_
    refine s_op (o_move (v := (.int .i64 (l.length : Int))) rfl ?_)
    refine s_op (o_move (v := (.int .i64 ((l.length : Nat) : Int))) rfl ?_)
    refine s_op (o_eql (a := (l.length : Int)) (b := ((l.length : Nat) : Int)) rfl rfl ?_)
    refine s_nil ?_
    refine t_norm (hK12 _ _ ?_)
    refine c_cond rfl (fun h13 => ?_) (fun h13 => ?_)
    · -- (l.length : Int) = ((l.length : Nat) : Int)
      refine wp_seq_k fun K14 hK14 => ?_
      refine c_region ?_
      refine s_op (o_move (v := v) rfl ?_)
      refine s_op (o_move (v := (.slice (some ⟨bu, 0, none⟩) 1 1)) rfl ?_)
      refine s_op (o_append Try.underlying166 ti170 rfl (by decide) rfl ho rfl hu (hH.front 0 rfl) (seg_sub 0 rfl) (one_plC _) (by simp; omega) (by simp; omega) fun v15 s16 w18 ho17 hH19 => ?_)
      have ho17 : Own 170 3 v15 (l ++ [x]).length ((l ++ [x]).flatMap plC) s16 := ho17.appF
      refine s_op (o_assign (v := v15) rfl ?_)
      refine s_nil ?_
      refine t_norm (hK14 _ _ ?_)
      refine wp_ret ?_
      refine t_ret (c_ret1 Try.results129  (v := v15) rfl ?_)
      have hH20 : Has E w18 [s16, R] := ((hH19.front 2 rfl).front 1 rfl).first 2 rfl
      exact ⟨_, _, rfl, ho17, hH20⟩
    · -- not: (l.length : Int) = ((l.length : Nat) : Int)
      exact absurd rfl h13
theorem pins_own {E w : World} {R hs : List Hp} {v : Value} {l : List Plc} {x : Plc} {bu : Nat} (i : Nat) (hi : i ≤ l.length) (hH : Has E w [hs, [Hp.one bu (.cells #[(S x.key), (.bool x.wr), (.int .i64 x.own)] 170 (0, 0))], R]) (ho : Own 170 3 v l.length (l.flatMap plC) hs) (hl : l.length ≤ 1000000) :
    Calls Try.prog 129 #[v, (.int .i64 (i : Int)), (.slice (some ⟨bu, 0, none⟩) 1 1)] w fun e w' => ∃ v' hs', e = .returned v' ∧ Own 170 3 v' (insAt l i x).length ((insAt l i x).flatMap plC) hs' ∧ Has E w' [hs', R] := by
  unfold insAt
  rcases Nat.lt_or_ge i l.length with h | h
  · obtain ⟨e1, ⟨rfl, h0, rfl⟩ | ⟨b, cap, cur, rfl, rfl, hnc, hcm, hsz, ht⟩⟩ := ho
    · omega
    · have hcm' : cap ≤ 9223372036854775807 := by simpa [maxLen] using hcm
      have e2 : cur.toList.take (i * 3) = ((l.take i).flatMap plC) := by
        rw [← flat_take plC_len l i, ← ht, List.take_take, Nat.min_eq_left (by omega)]
      have e3 : (cur.toList.take (l.length * 3)).drop (i * 3) = ((l.drop i).flatMap plC) := by rw [ht, flat_drop plC_len l i]
      have h1 : ∀ u ∈ cur.toList.take (l.length * 3), u.oneCell' = true := by rw [ht]; exact (one_plC l)
      have h2 : ∀ u ∈ (#[(S x.key), (.bool x.wr), (.int .i64 x.own)] : Array Value).toList, u.oneCell' = true := (fun u_ hu_ => (one_plC [x]) u_ (by simpa [plC, iV] using hu_))
      have key : ∀ (e : Ending) (w' : World), (∃ v' hs', e = .returned v' ∧ Own 170 3 v' (l.length + 1) (cur.toList.take (i * 3) ++ (#[(S x.key), (.bool x.wr), (.int .i64 x.own)] : Array Value).toList ++ (cur.toList.take (l.length * 3)).drop (i * 3)) hs' ∧ Has E w' [hs', R]) →
          ∃ v' hs', e = .returned v' ∧ Own 170 3 v' (l.take i ++ [x] ++ l.drop i).length ((l.take i ++ [x] ++ l.drop i).flatMap plC) hs' ∧ Has E w' [hs', R] := by
        rintro e w' ⟨v', hs', rfl, hO, hX⟩
        refine ⟨v', hs', rfl, ?_, hX⟩
        rw [e2, e3] at hO
        have e4 : (l.take i ++ [x] ++ l.drop i).length = l.length + 1 := by simp only [List.length_append, List.length_take, List.length_drop, List.length_cons, List.length_nil]; omega
        rw [e4, List.flatMap_append, List.flatMap_append, show ([x] : List Plc).flatMap plC = [(S x.key), (.bool x.wr), (.int .i64 x.own)] from rfl]; exact hO
      rcases Nat.lt_or_ge cap (l.length + 1) with g | g
      · exact Calls.mono (pins_grow b bu l.length cap i cur #[(S x.key), (.bool x.wr), (.int .i64 x.own)] hH h hnc g hcm' hsz rfl (by omega) h1 h2) key
      · exact Calls.mono (pins_room b bu l.length cap i cur #[(S x.key), (.bool x.wr), (.int .i64 x.own)] hH h hnc g hcm' hsz rfl (by omega) h1 h2) key
  · have : i = l.length := by omega
    subst this
    rw [List.take_of_length_le (Nat.le_refl _), List.drop_of_length_le (Nat.le_refl _), List.append_nil]
    exact pins_end hH ho hl
end Go.Q
