/-
  Layer 5: what lies on a device behind writes, a sync and a crash.
-/
import Derived.Test.YtcffibbdbalmjaaQDev
import Derived.Test.YtcffibbdbalmjaaQSets
set_option linter.unusedVariables false
set_option linter.unusedSimpArgs false
namespace Go.Q
/-- a power that is on, is not armed, and was used a few times -/
structure Calm (p : Pw) (k : Nat) : Prop where
  off : p.off = false
  arm : p.armed = false
  u0 : 0 ≤ p.uses
  u1 : p.uses ≤ k
  l0 : -(k : Int) ≤ p.left
  l1 : p.left ≤ 0
theorem Calm.ok {p : Pw} {k : Nat} (h : Calm p k) (hk : k ≤ 1000000) : PwOk p := by
  obtain ⟨_, _, h1, h2, h3, h4⟩ := h
  exact ⟨h1, by omega, by omega, by omega⟩
theorem Calm.use {p : Pw} {k : Nat} (h : Calm p k) : Calm (useS p) (k + 1) := by
  obtain ⟨h1, h2, h3, h4, h5, h6⟩ := h
  unfold useS
  rw [if_neg (by rw [h1]; decide), h2]
  exact ⟨rfl, rfl, by show 0 ≤ p.uses + 1; omega, by show p.uses + 1 ≤ _; omega, by show _ ≤ p.left - 1; omega, by show p.left - 1 ≤ 0; omega⟩
theorem Calm.b {p : Pw} {k : Nat} (h : Calm p k) : useB p = true := by
  have := h.use.off
  unfold useB; rw [h.off, this]; rfl
theorem Calm.mono {p : Pw} {k m : Nat} (h : Calm p k) (hk : k ≤ m) : Calm p m := ⟨h.off, h.arm, h.u0, by have := h.u1; omega, by have := h.l0; omega, h.l1⟩
theorem Calm.back {p : Pw} {k : Nat} (h : Calm p k) : Calm (backS p) k := ⟨rfl, rfl, h.u0, h.u1, h.l0, h.l1⟩
theorem Calm.new : Calm (Pw.mk false false 0 0) 0 := ⟨rfl, rfl, by decide, by decide, by decide, by decide⟩
theorem settle_at {lo : List (Int × Bs)} (h0 : ∀ n, (getB lo n).isSome = true → 0 ≤ n) (j : Nat) : ∀ (keep : List Int) (la : List Bs), j < la.length → (settleS lo la keep)[j]? = if (j : Int) ∈ keep ∧ (getB lo (j : Int)).isSome = true then getB lo (j : Int) else la[j]?
  | [], la, _ => by simp [settleS]
  | n :: keep, la, hj => by
    show (settleS lo (match getB lo n with | some s => la.set n.toNat s | none => la) keep)[j]? = _
    cases hn : getB lo n with
    | none =>
      rw [settle_at h0 j keep la hj]
      by_cases e : (j : Int) = n
      · rw [e, hn]; simp
      · simp [List.mem_cons, e]
    | some s =>
      show (settleS lo (la.set n.toNat s) keep)[j]? = _
      rw [settle_at h0 j keep (la.set n.toNat s) (by simpa using hj)]
      have hp := h0 n (by rw [hn]; rfl)
      by_cases e : (j : Int) = n
      · subst e
        rw [hn]
        simp [hj]
      · have g : n.toNat ≠ j := by omega
        simp [List.mem_cons, e, List.getElem?_set, g]
theorem LoOk.nn {lo : List (Int × Bs)} {k : Nat} (h : LoOk lo k) : ∀ n, (getB lo n).isSome = true → 0 ≤ n := fun n g => (h.get g).1
theorem keysS_mem {lo : List (Int × Bs)} {n : Int} : n ∈ keysS lo ↔ (getB lo n).isSome = true := by
  unfold keysS; rw [(List.mergeSort_perm _ _).mem_iff, getB_mem]
/-- a text that may be a sector's -/
def okT (l : List Bs) (j : Nat) : Prop := j < l.length ∧ ((l[j]?).getD []).length ≤ 64
instance (l : List Bs) (j : Nat) : Decidable (okT l j) := inferInstanceAs (Decidable (_ ∧ _))
def secT (base l : List Bs) (j : Nat) : Bs := if okT l j then fillS ((l[j]?).getD []) else (base[j]?).getD []
theorem secT_yes {base l : List Bs} {j : Nat} {s : Bs} (h : l[j]? = some s) (hs : s.length ≤ 64) : secT base l j = fillS s := by
  have hlt := (List.getElem?_eq_some_iff.1 h).1
  unfold secT; rw [if_pos ⟨hlt, by rw [h]; exact hs⟩, h]; rfl
theorem secT_no {base l : List Bs} {j : Nat} (h : ¬ okT l j) : secT base l j = (base[j]?).getD [] := by unfold secT; rw [if_neg h]
/-- what is loose where the first i texts were written -/
def WR (k : Nat) (l : List Bs) (i : Nat) (lo : List (Int × Bs)) : Prop := (∀ j : Nat, j < k → getB lo (j : Int) = if j < i ∧ okT l j then some (fillS ((l[j]?).getD [])) else none) ∧ LoOk lo k
theorem LoOk.nil (k : Nat) : LoOk [] k := fun p h => by simp at h
theorem LoOk.put {lo : List (Int × Bs)} {k : Nat} (h : LoOk lo k) {n : Int} {s : Bs} (hn : inS n k) (hs : s.length = 64) : LoOk (putB lo n s) k := by
  intro p hp
  have : ∀ l : List (Int × Bs), p ∈ putB l n s → p = (n, s) ∨ p ∈ l := by
    intro l
    induction l with
    | nil => intro h; exact .inl (List.mem_singleton.1 h)
    | cons q t ih =>
      obtain ⟨a, u⟩ := q
      intro h
      rw [putB] at h
      split at h
      · rcases List.mem_cons.1 h with e | e
        · exact .inl e
        · exact .inr (List.mem_cons_of_mem _ e)
      · rcases List.mem_cons.1 h with e | e
        · exact .inr (by rw [e]; exact List.mem_cons_self ..)
        · rcases ih e with e | e
          · exact .inl e
          · exact .inr (List.mem_cons_of_mem _ e)
  rcases this lo hp with rfl | g
  · exact ⟨hn, hs⟩
  · exact h p g
theorem LoOk.del {lo : List (Int × Bs)} {k : Nat} (h : LoOk lo k) (n : Int) : LoOk (delB lo n) k := fun p hp => h p ((delB_sub n lo).subset hp)
theorem LoOk.write {lo : List (Int × Bs)} {k : Nat} (h : LoOk lo k) (p : Pw) (n : Int) (s : Bs) : LoOk (writeS p k lo n s) k := by
  unfold writeS
  split
  · rename_i g; exact h.put g.2.2 (fill_len g.2.1)
  · exact h
theorem WR.start (k : Nat) (l : List Bs) : WR k l 0 [] := ⟨fun j _ => by simp [getB], LoOk.nil k⟩
theorem WR.yes {k i m : Nat} {l : List Bs} {lo : List (Int × Bs)} {p : Pw} {s : Bs} (h : WR k l i lo) (hi : i < k) (hx : l[i]? = some s) (hs : s.length ≤ 64) (hp : Calm p m) : WR k l (i + 1) (writeS p k lo (i : Int) [s].flatten) := by
  have e : ([s] : List Bs).flatten = s := by simp
  have hin : inS (i : Int) k := ⟨by omega, by omega⟩
  have hw : writeS p k lo (i : Int) [s].flatten = putB lo (i : Int) (fillS s) := by unfold writeS; rw [e, if_pos ⟨hp.b, hs, hin⟩]
  have hlt := (List.getElem?_eq_some_iff.1 hx).1
  refine ⟨fun j hj => ?_, h.2.write p _ _⟩
  rw [hw, getB_put]
  by_cases g : j = i
  · subst g
    rw [if_pos rfl, if_pos ⟨by omega, hlt, by rw [hx]; exact hs⟩, hx]; rfl
  · rw [if_neg (by omega), h.1 j hj]
    by_cases c : j < i
    · simp [c, show j < i + 1 by omega]
    · simp [c, show ¬ j < i + 1 by omega]
theorem WR.no {k i : Nat} {l : List Bs} {lo : List (Int × Bs)} (h : WR k l i lo) (hx : ¬ okT l i) : WR k l (i + 1) lo := by
  refine ⟨fun j hj => ?_, h.2⟩
  rw [h.1 j hj]
  by_cases g : j = i
  · subst g; simp [hx]
  · by_cases c : j < i
    · simp [c, show j < i + 1 by omega]
    · simp [c, show ¬ j < i + 1 by omega]
theorem WR.at {k j : Nat} {l la : List Bs} {lo : List (Int × Bs)} (h : WR k l k lo) (hl : la.length = k) (hj : j < k) (keep : List Int) : (settleS lo la keep)[j]? = some (if (j : Int) ∈ keep then secT la l j else (la[j]?).getD []) := by
  rw [settle_at h.2.nn j keep la (by omega), h.1 j hj]
  have hla : la[j]? = some la[j] := List.getElem?_eq_getElem (by omega)
  by_cases c : okT l j
  · simp only [hj, c, and_self, if_true, Option.isSome_some, and_true]
    by_cases d : (j : Int) ∈ keep
    · rw [if_pos d, if_pos d]; unfold secT; rw [if_pos c]
    · rw [if_neg d, if_neg d, hla]; rfl
  · simp only [c, and_false, if_false, Option.isSome_none, Bool.false_eq_true]
    rw [hla, secT_no c]
    split <;> simp [hla]
theorem map_range_get {α : Type} (f : Nat → α) {k j : Nat} (hj : j < k) : ((List.range k).map f)[j]? = some (f j) := by
  rw [List.getElem?_map, List.getElem?_range hj]; rfl
theorem WR.sync {k : Nat} {l la : List Bs} {lo : List (Int × Bs)} (h : WR k l k lo) (hl : la.length = k) : settleS lo la (keysS lo) = (List.range k).map (secT la l) := by
  refine List.ext_getElem? fun j => ?_
  rcases Nat.lt_or_ge j k with hj | hj
  · rw [h.at hl hj, map_range_get _ hj]
    by_cases c : okT l j
    · rw [if_pos (keysS_mem.2 (by rw [h.1 j hj, if_pos ⟨hj, c⟩]; rfl))]
    · rw [secT_no c]; simp
  · rw [List.getElem?_eq_none (by rw [settle_len]; omega), List.getElem?_eq_none (by simp; omega)]
theorem sync_calm {p : Pw} {k : Nat} (h : Calm p k) (la : List Bs) (lo : List (Int × Bs)) : syncE p = 0 ∧ syncA p la lo = settleS lo la (keysS lo) ∧ syncO p lo = [] := by
  unfold syncE syncA syncO; rw [h.b]; exact ⟨rfl, rfl, rfl⟩
theorem read_calm {p : Pw} {k : Nat} (h : Calm p k) {la : List Bs} {n : Int} (hn : inS n la.length) : readS p la [] n = (la[n.toNat]?).getD [] ∧ readE p la n = 0 := by
  unfold readS readE; rw [h.off]; simp [hn, getB]
theorem set_last {α : Type} (l : List α) (a b : α) {n : Int} (h : n = (l.length : Int)) : (l ++ [a]).set n.toNat b = l ++ [b] := by
  subst h; simp
theorem range_snoc {α : Type} (f : Nat → α) (k : Nat) : (List.range (k + 1)).map f = (List.range k).map f ++ [f k] := by rw [List.range_succ, List.map_append]; rfl
theorem keys_nil : keysS ([] : List (Int × Bs)) = [] := by simp [keysS]
end Go.Q
