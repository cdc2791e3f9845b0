/-
  Parts of a walk: what functions of the program compute, each told by a theorem (QDevK, QIn, QDSB, QDSB2, QDn1, QM, QCrc, QU, QDs1, QZ, QDSh1, QDs2, QPage2, QW, QFrame, QFrame2, QPageB, QDp9).
-/
import Derived.Test.YtcffibbdbalmjaaDoorB2
import Derived.Below
import Derived.Shelf.Strings.OnBuilder
import Derived.Shelf.Strings.Repeat
import Derived.Shelf.Bits.Mul64
import Derived.Laws.IdiomStrings
set_option linter.unusedVariables false
set_option linter.unusedSimpArgs false
set_option linter.unnecessarySimpa false
namespace Go.Q
/-- a power that is on, is not armed, and was used a few times -/
structure Calm (p : Pw) (k : Nat) : Prop where
  off : p.off = false
  arm : p.armed = false
  u0 : 0 ≤ p.uses
  u1 : p.uses ≤ k
  l0 : -(k : Int) ≤ p.left
  l1 : p.left ≤ 0
theorem Calm.ok {p : Pw} {k : Nat} (h : Calm p k) (hk : k ≤ 1000000) : PwOk p := by
  obtain ⟨_, _, h1, h2, h3, h4⟩ := h
  exact ⟨h1, by omega, by omega, by omega⟩
theorem Calm.use {p : Pw} {k : Nat} (h : Calm p k) : Calm (useS p) (k + 1) := by
  obtain ⟨h1, h2, h3, h4, h5, h6⟩ := h
  unfold useS
  rw [if_neg (by rw [h1]; decide), h2]
  exact ⟨rfl, rfl, by show 0 ≤ p.uses + 1; omega, by show p.uses + 1 ≤ _; omega, by show _ ≤ p.left - 1; omega, by show p.left - 1 ≤ 0; omega⟩
theorem Calm.b {p : Pw} {k : Nat} (h : Calm p k) : useB p = true := by
  have := h.use.off
  unfold useB; rw [h.off, this]; rfl
theorem Calm.mono {p : Pw} {k m : Nat} (h : Calm p k) (hk : k ≤ m) : Calm p m := ⟨h.off, h.arm, h.u0, by have := h.u1; omega, by have := h.l0; omega, h.l1⟩
theorem Calm.back {p : Pw} {k : Nat} (h : Calm p k) : Calm (backS p) k := ⟨rfl, rfl, h.u0, h.u1, h.l0, h.l1⟩
theorem Calm.new : Calm (Pw.mk false false 0 0) 0 := ⟨rfl, rfl, by decide, by decide, by decide, by decide⟩
theorem settle_at {lo : List (Int × Bs)} (h0 : ∀ n, (getB lo n).isSome = true → 0 ≤ n) (j : Nat) : ∀ (keep : List Int) (la : List Bs), j < la.length → (settleS lo la keep)[j]? = if (j : Int) ∈ keep ∧ (getB lo (j : Int)).isSome = true then getB lo (j : Int) else la[j]?
  | [], la, _ => by simp [settleS]
  | n :: keep, la, hj => by
    show (settleS lo (match getB lo n with | some s => la.set n.toNat s | none => la) keep)[j]? = _
    cases hn : getB lo n with
    | none =>
      rw [settle_at h0 j keep la hj]
      by_cases e : (j : Int) = n
      · rw [e, hn]; simp
      · simp [List.mem_cons, e]
    | some s =>
      show (settleS lo (la.set n.toNat s) keep)[j]? = _
      rw [settle_at h0 j keep (la.set n.toNat s) (by simpa using hj)]
      have hp := h0 n (by rw [hn]; rfl)
      by_cases e : (j : Int) = n
      · subst e
        rw [hn]
        simp [hj]
      · have g : n.toNat ≠ j := by omega
        simp [List.mem_cons, e, List.getElem?_set, g]
theorem LoOk.nn {lo : List (Int × Bs)} {k : Nat} (h : LoOk lo k) : ∀ n, (getB lo n).isSome = true → 0 ≤ n := fun n g => (h.get g).1
theorem keysS_mem {lo : List (Int × Bs)} {n : Int} : n ∈ keysS lo ↔ (getB lo n).isSome = true := by
  unfold keysS; rw [(List.mergeSort_perm _ _).mem_iff, getB_mem]
/-- a text that may be a sector's -/
def okT (l : List Bs) (j : Nat) : Prop := j < l.length ∧ ((l[j]?).getD []).length ≤ 64
instance (l : List Bs) (j : Nat) : Decidable (okT l j) := inferInstanceAs (Decidable (_ ∧ _))
def secT (base l : List Bs) (j : Nat) : Bs := if okT l j then fillS ((l[j]?).getD []) else (base[j]?).getD []
theorem secT_yes {base l : List Bs} {j : Nat} {s : Bs} (h : l[j]? = some s) (hs : s.length ≤ 64) : secT base l j = fillS s := by
  have hlt := (List.getElem?_eq_some_iff.1 h).1
  unfold secT; rw [if_pos ⟨hlt, by rw [h]; exact hs⟩, h]; rfl
theorem secT_no {base l : List Bs} {j : Nat} (h : ¬ okT l j) : secT base l j = (base[j]?).getD [] := by unfold secT; rw [if_neg h]
/-- what is loose where the first i texts were written -/
def WR (k : Nat) (l : List Bs) (i : Nat) (lo : List (Int × Bs)) : Prop := (∀ j : Nat, j < k → getB lo (j : Int) = if j < i ∧ okT l j then some (fillS ((l[j]?).getD [])) else none) ∧ LoOk lo k
theorem LoOk.nil (k : Nat) : LoOk [] k := fun p h => by simp at h
theorem LoOk.put {lo : List (Int × Bs)} {k : Nat} (h : LoOk lo k) {n : Int} {s : Bs} (hn : inS n k) (hs : s.length = 64) : LoOk (putB lo n s) k := by
  intro p hp
  have : ∀ l : List (Int × Bs), p ∈ putB l n s → p = (n, s) ∨ p ∈ l := by
    intro l
    induction l with
    | nil => intro h; exact .inl (List.mem_singleton.1 h)
    | cons q t ih =>
      obtain ⟨a, u⟩ := q
      intro h
      rw [putB] at h
      split at h
      · rcases List.mem_cons.1 h with e | e
        · exact .inl e
        · exact .inr (List.mem_cons_of_mem _ e)
      · rcases List.mem_cons.1 h with e | e
        · exact .inr (by rw [e]; exact List.mem_cons_self ..)
        · rcases ih e with e | e
          · exact .inl e
          · exact .inr (List.mem_cons_of_mem _ e)
  rcases this lo hp with rfl | g
  · exact ⟨hn, hs⟩
  · exact h p g
theorem LoOk.del {lo : List (Int × Bs)} {k : Nat} (h : LoOk lo k) (n : Int) : LoOk (delB lo n) k := fun p hp => h p ((delB_sub n lo).subset hp)
theorem LoOk.write {lo : List (Int × Bs)} {k : Nat} (h : LoOk lo k) (p : Pw) (n : Int) (s : Bs) : LoOk (writeS p k lo n s) k := by
  unfold writeS
  split
  · rename_i g; exact h.put g.2.2 (fill_len g.2.1)
  · exact h
theorem WR.start (k : Nat) (l : List Bs) : WR k l 0 [] := ⟨fun j _ => by simp [getB], LoOk.nil k⟩
theorem WR.yes {k i m : Nat} {l : List Bs} {lo : List (Int × Bs)} {p : Pw} {s : Bs} (h : WR k l i lo) (hi : i < k) (hx : l[i]? = some s) (hs : s.length ≤ 64) (hp : Calm p m) : WR k l (i + 1) (writeS p k lo (i : Int) [s].flatten) := by
  have e : ([s] : List Bs).flatten = s := by simp
  have hin : inS (i : Int) k := ⟨by omega, by omega⟩
  have hw : writeS p k lo (i : Int) [s].flatten = putB lo (i : Int) (fillS s) := by unfold writeS; rw [e, if_pos ⟨hp.b, hs, hin⟩]
  have hlt := (List.getElem?_eq_some_iff.1 hx).1
  refine ⟨fun j hj => ?_, h.2.write p _ _⟩
  rw [hw, getB_put]
  by_cases g : j = i
  · subst g
    rw [if_pos rfl, if_pos ⟨by omega, hlt, by rw [hx]; exact hs⟩, hx]; rfl
  · rw [if_neg (by omega), h.1 j hj]
    by_cases c : j < i
    · simp [c, show j < i + 1 by omega]
    · simp [c, show ¬ j < i + 1 by omega]
theorem WR.no {k i : Nat} {l : List Bs} {lo : List (Int × Bs)} (h : WR k l i lo) (hx : ¬ okT l i) : WR k l (i + 1) lo := by
  refine ⟨fun j hj => ?_, h.2⟩
  rw [h.1 j hj]
  by_cases g : j = i
  · subst g; simp [hx]
  · by_cases c : j < i
    · simp [c, show j < i + 1 by omega]
    · simp [c, show ¬ j < i + 1 by omega]
theorem WR.at {k j : Nat} {l la : List Bs} {lo : List (Int × Bs)} (h : WR k l k lo) (hl : la.length = k) (hj : j < k) (keep : List Int) : (settleS lo la keep)[j]? = some (if (j : Int) ∈ keep then secT la l j else (la[j]?).getD []) := by
  rw [settle_at h.2.nn j keep la (by omega), h.1 j hj]
  have hla : la[j]? = some la[j] := List.getElem?_eq_getElem (by omega)
  by_cases c : okT l j
  · simp only [hj, c, and_self, if_true, Option.isSome_some, and_true]
    by_cases d : (j : Int) ∈ keep
    · rw [if_pos d, if_pos d]; unfold secT; rw [if_pos c]
    · rw [if_neg d, if_neg d, hla]; rfl
  · simp only [c, and_false, if_false, Option.isSome_none, Bool.false_eq_true]
    rw [hla, secT_no c]
    split <;> simp [hla]
theorem map_range_get {α : Type} (f : Nat → α) {k j : Nat} (hj : j < k) : ((List.range k).map f)[j]? = some (f j) := by
  rw [List.getElem?_map, List.getElem?_range hj]; rfl
theorem WR.sync {k : Nat} {l la : List Bs} {lo : List (Int × Bs)} (h : WR k l k lo) (hl : la.length = k) : settleS lo la (keysS lo) = (List.range k).map (secT la l) := by
  refine List.ext_getElem? fun j => ?_
  rcases Nat.lt_or_ge j k with hj | hj
  · rw [h.at hl hj, map_range_get _ hj]
    by_cases c : okT l j
    · rw [if_pos (keysS_mem.2 (by rw [h.1 j hj, if_pos ⟨hj, c⟩]; rfl))]
    · rw [secT_no c]; simp
  · rw [List.getElem?_eq_none (by rw [settle_len]; omega), List.getElem?_eq_none (by simp; omega)]
theorem sync_calm {p : Pw} {k : Nat} (h : Calm p k) (la : List Bs) (lo : List (Int × Bs)) : syncE p = 0 ∧ syncA p la lo = settleS lo la (keysS lo) ∧ syncO p lo = [] := by
  unfold syncE syncA syncO; rw [h.b]; exact ⟨rfl, rfl, rfl⟩
theorem read_calm {p : Pw} {k : Nat} (h : Calm p k) {la : List Bs} {n : Int} (hn : inS n la.length) : readS p la [] n = (la[n.toNat]?).getD [] ∧ readE p la n = 0 := by
  unfold readS readE; rw [h.off]; simp [hn, getB]
theorem set_last {α : Type} (l : List α) (a b : α) {n : Int} (h : n = (l.length : Int)) : (l ++ [a]).set n.toNat b = l ++ [b] := by
  subst h; simp
theorem range_snoc {α : Type} (f : Nat → α) (k : Nat) : (List.range (k + 1)).map f = (List.range k).map f ++ [f k] := by rw [List.range_succ, List.map_append]; rfl
theorem keys_nil : keysS ([] : List (Int × Bs)) = [] := by simp [keysS]
end Go.Q
namespace Go.Q
theorem sub_perm : ∀ {S R : List Hp}, S.Nodup → S ⊆ R → ∃ rest, R.Perm (S ++ rest)
  | [], R, _, _ => ⟨R, .refl _⟩
  | a :: S, R, hn, hs => by
    obtain ⟨l1, l2, rfl⟩ := List.append_of_mem (hs List.mem_cons_self)
    obtain ⟨rest, h⟩ := sub_perm (S := S) (R := l1 ++ l2) (List.nodup_cons.1 hn).2 (fun x hx => by
      have g := hs (List.mem_cons_of_mem _ hx)
      have hne : x ≠ a := fun e => (List.nodup_cons.1 hn).1 (e ▸ hx)
      simp only [List.mem_append, List.mem_cons] at g ⊢
      rcases g with g | g | g
      · exact .inl g
      · exact absurd g hne
      · exact .inr g)
    exact ⟨rest, List.perm_middle.trans (h.cons a)⟩
theorem Has.part {E w : World} {S R : List Hp} (H : Has E w [R]) (hn : S.Nodup) (hs : S ⊆ R) : ∃ rest, R.Perm (S ++ rest) ∧ Has E w [S, rest] := by
  obtain ⟨rest, hp⟩ := sub_perm hn hs
  refine ⟨rest, hp, ?_⟩
  have h0 : Has0 E w R := by simpa [Has] using H
  have h1 := h0.perm hp.symm
  simpa [Has] using h1
theorem Has.parted {E w : World} {M S R rest : List Hp} (hp : R.Perm (S ++ rest)) (H : Has E w [M, S, rest]) : Has E w [M, R] := by
  have h0 : Has0 E w (M ++ (S ++ rest)) := by simpa [Has] using H
  have h1 := h0.perm (hp.append_left M)
  simpa [Has] using h1
theorem Calls.inside {P : Program} {f : FuncId} {args : Array Value} {E w : World} {S R : List Hp} {Q : Ending → Prop} (H : Has E w [R]) (hn : S.Nodup) (hs : S ⊆ R)
    (c : ∀ R', Has E w [S, R'] → Calls P f args w fun e w' => Q e ∧ Has E w' [S, R']) : Calls P f args w fun e w' => Q e ∧ Has E w' [R] := by
  obtain ⟨rest, hp, H2⟩ := H.part hn hs
  exact (c rest H2).mono fun e w' ⟨he, h⟩ => ⟨he, by
    have h0 : Has0 E w' (S ++ rest) := by simpa [Has] using h
    have h1 := h0.perm hp
    simpa [Has] using h1⟩
theorem Calls.insideM {α : Type} {P : Program} {f : FuncId} {args : Array Value} {E w : World} {S R : List Hp} {Q : Ending → α → List Hp → Prop} (H : Has E w [R]) (hn : S.Nodup) (hs : S ⊆ R)
    (c : ∀ R', Has E w [S, R'] → Calls P f args w fun e w' => ∃ a M, Q e a M ∧ Has E w' [M, S, R']) : Calls P f args w fun e w' => ∃ a M, Q e a M ∧ Has E w' [M, R] := by
  obtain ⟨rest, hp, H2⟩ := H.part hn hs
  exact (c rest H2).mono fun e w' ⟨a, M, he, h⟩ => ⟨a, M, he, h.parted hp⟩
theorem Has.open2 {E w : World} {a b : List Hp} {ss : List (List Hp)} (H : Has E w ((a ++ b) :: ss)) : Has E w (a :: b :: ss) := by
  unfold Has at *; simpa [List.append_assoc] using H
theorem Has.close2 {E w : World} {a b : List Hp} {ss : List (List Hp)} (H : Has E w (a :: b :: ss)) : Has E w ((a ++ b) :: ss) := by
  unfold Has at *; simpa [List.append_assoc] using H
theorem Has.close2' {E w : World} {x a b : List Hp} {ss : List (List Hp)} (H : Has E w (x :: a :: b :: ss)) : Has E w (x :: (a ++ b) :: ss) := by
  unfold Has at *; simpa [List.append_assoc] using H
/-- no heaplet of these is empty -/
def Full (S : List Hp) : Prop := ∀ h ∈ S, ∃ b o, h b = some o
theorem Full.one (b : Nat) (o : Obj) : Full [Hp.one b o] := fun h hh => ⟨b, o, by rw [List.mem_singleton.1 hh]; exact Hp.one_at b o⟩
theorem Full.app {S T : List Hp} (h : Full S) (g : Full T) : Full (S ++ T) := fun x hx => (List.mem_append.1 hx).elim (h x) (g x)
theorem Full.nodup {E w : World} {S : List Hp} {ss : List (List Hp)} (hf : Full S) (H : Has E w (S :: ss)) : S.Nodup := by
  have h0 : Has0 E w (S ++ ss.flatten) := by simpa [Has] using H
  have h1 : S.Pairwise Hp.dis := h0.dj.sublist (List.sublist_append_left _ _)
  refine List.Pairwise.imp_of_mem (fun {a b} ha hb d e => ?_) h1
  subst e
  obtain ⟨x, o, hx⟩ := hf a ha
  rcases d x with g | g <;> rw [hx] at g <;> cases g
theorem Own.full {e sz n : Nat} {v : Value} {cs : List Value} {hs : List Hp} (h : Own e sz v n cs hs) : Full hs := by
  obtain ⟨_, ⟨_, _, h⟩ | ⟨b, cap, cur, _, h, _⟩⟩ := h
  · subst h; exact fun x hx => by cases hx
  · subst h; exact Full.one _ _
theorem in_sub {a b l : List Hp} (h : a ⊆ l) (g : b ⊆ l) : a ++ b ⊆ l := fun x hx => (List.mem_append.1 hx).elim (fun y => h y) (fun y => g y)
-- what stays, whatever is done
theorem LoOk.sync {lo : List (Int × Bs)} {k : Nat} (h : LoOk lo k) (p : Pw) : LoOk (syncO p lo) k := by
  unfold syncO; split
  · exact LoOk.nil k
  · exact h
theorem syncA_len (p : Pw) (la : List Bs) (lo : List (Int × Bs)) : (syncA p la lo).length = la.length := by
  unfold syncA; split
  · exact settle_len _ _ _
  · rfl
theorem putA_len (la : List Bs) (n : Int) (s : Bs) : (putA la n s).length = la.length := by
  unfold putA; split <;> simp
theorem LoOk.puto {lo : List (Int × Bs)} {k m : Nat} (h : LoOk lo k) (n : Int) (s : Bs) : LoOk (putO m lo n s) k := by
  unfold putO; split
  · exact h.del n
  · exact h
theorem readE_on {p : Pw} {la : List Bs} {n : Int} (h : p.off = false) (hn : inS n la.length) : readE p la n = 0 := by unfold readE; rw [h]; simp [hn]
theorem readS_on {p q : Pw} {la : List Bs} {lo : List (Int × Bs)} {n : Int} (h : p.off = false) (g : q.off = false) : readS p la lo n = readS q la lo n := by unfold readS; rw [h, g]
end Go.Q
namespace Go.Q
open Go.Proofs
set_option linter.unusedVariables false
set_option maxRecDepth 100000
attribute [local irreducible] wpList OK Code.wp
set_option maxHeartbeats 4000000 in
theorem cc_f {E w : World} {R : List Hp} {bb : Nat} {v : Value} (hH : Has E w [[Hp.one bb (.cells #[(.pointer none), v] 90 (0, 0))], R]) :
    Calls Tryd.prog 86 #[(.pointer (some ⟨bb, 0, none⟩))] w fun e w' => e = .returned (.tuple #[]) ∧ Has E w' [[Hp.one bb (.cells #[(.pointer (some ⟨bb, 0, none⟩)), v] 90 (0, 0))], R] := by
  refine c_enter (args := [(.pointer (some ⟨bb, 0, none⟩))]) Tryd.func86 rfl Tryd.ntmps86 (by simp) ?_
  refine wp_seq_k fun K1 hK1 => ?_
  refine c_region ?_
  refine s_op (o_move (v := (.pointer (some ⟨bb, 0, none⟩))) rfl ?_)
  refine s_op (o_nilCheck rfl ?_)
  refine s_op (o_fieldAddr (k := 0) (fun _ => by kernel_rfl) rfl ?_)
  refine s_op (o_load1 (v := (.pointer none)) Tryd.underlying88 rfl rfl hH (seg_sub 0 rfl) (CellsAt.one rfl) ?_)
  refine s_op (o_pnil (p := none) Tryd.underlying88 rfl rfl ?_)
  refine s_nil ?_
  refine t_norm (hK1 _ _ ?_)
  refine c_true rfl rfl ?_
  refine c_region ?_
  refine s_op (o_move (v := (.pointer (some ⟨bb, 0, none⟩))) rfl ?_)
  refine s_op (o_move (v := (.pointer (some ⟨bb, 0, none⟩))) rfl ?_)
  refine s_op (o_toUnsafe Tryd.underlying88 Tryd.underlying150 ti90 (by decide) rfl hH (seg_sub 0 rfl) (Nat.zero_lt_succ 1) ?_)
  refine s_op (o_extern (v' := (.pointer (some ⟨bb, 0, none⟩))) rfl rfl (by rw [run_callFunc_extern Tryd.func111 (by kernel_rfl) (by kernel_rfl) (by kernel_rfl) (e := Extern.AbiNoEscape.same) (by kernel_rfl), Lib.run_noEscape]; rfl) ?_)
  refine s_op (o_fromUnsafe Tryd.underlying150 Tryd.underlying88 ti90 rfl hH (seg_sub 0 rfl) (by kernel_rfl) ?_)
  refine s_op (o_nilCheck rfl ?_)
  refine s_op (o_fieldAddr (k := 0) (fun _ => by kernel_rfl) rfl ?_)
  refine s_eff (o_store1 (c' := #[(.pointer (some ⟨bb, 0, none⟩)), v]) ti88 rfl rfl rfl (by simp) rfl (hH.front 0 rfl) fun w2 hH3 => ?_)
  refine s_nil ?_
  refine c_end0 Tryd.results86  ?_
  exact ⟨rfl, hH3⟩
set_option maxHeartbeats 4000000 in
theorem cc_u {E w : World} {R : List Hp} {bb : Nat} {v : Value} (hH : Has E w [[Hp.one bb (.cells #[(.pointer (some ⟨bb, 0, none⟩)), v] 90 (0, 0))], R]) :
    Calls Tryd.prog 86 #[(.pointer (some ⟨bb, 0, none⟩))] w fun e w' => e = .returned (.tuple #[]) ∧ Has E w' [[Hp.one bb (.cells #[(.pointer (some ⟨bb, 0, none⟩)), v] 90 (0, 0))], R] := by
  refine c_enter (args := [(.pointer (some ⟨bb, 0, none⟩))]) Tryd.func86 rfl Tryd.ntmps86 (by simp) ?_
  refine wp_seq_k fun K1 hK1 => ?_
  refine c_region ?_
  refine s_op (o_move (v := (.pointer (some ⟨bb, 0, none⟩))) rfl ?_)
  refine s_op (o_nilCheck rfl ?_)
  refine s_op (o_fieldAddr (k := 0) (fun _ => by kernel_rfl) rfl ?_)
  refine s_op (o_load1 (v := (.pointer (some ⟨bb, 0, none⟩))) Tryd.underlying88 rfl rfl hH (seg_sub 0 rfl) (CellsAt.one rfl) ?_)
  refine s_op (o_pnil (p := some _) Tryd.underlying88 rfl rfl ?_)
  refine s_nil ?_
  refine t_norm (hK1 _ _ ?_)
  refine c_false rfl rfl ?_
  refine wp_seq_k fun K2 hK2 => ?_
  refine c_region ?_
  refine s_op (o_move (v := (.pointer (some ⟨bb, 0, none⟩))) rfl ?_)
  refine s_op (o_nilCheck rfl ?_)
  refine s_op (o_fieldAddr (k := 0) (fun _ => by kernel_rfl) rfl ?_)
  refine s_op (o_load1 (v := (.pointer (some ⟨bb, 0, none⟩))) Tryd.underlying88 rfl rfl hH (seg_sub 0 rfl) (CellsAt.one rfl) ?_)
  refine s_op (o_move (v := (.pointer (some ⟨bb, 0, none⟩))) rfl ?_)
  refine s_op (o_pneqSame Tryd.underlying88 ti90 rfl rfl ?_)
  refine s_nil ?_
  refine t_norm (hK2 _ _ ?_)
  refine c_false rfl rfl ?_
  refine wp_skip ?_
  refine c_end0 Tryd.results86  ?_
  exact ⟨rfl, hH⟩
set_option maxHeartbeats 4000000 in
theorem ws_f {E w : World} {R hs : List Hp} {bb : Nat} {v : Value} {l : List UInt8} (hH : Has E w [hs, [Hp.one bb (.cells #[(.pointer none), v] 90 (0, 0))], R]) (ho : Own 5 1 v l.length (l.map bV) hs) (hnil : l = [] → v = .slice none 0 0) (s : List UInt8) (hb : l.length + s.length ≤ 140737488355328) :
    Calls Tryd.prog 52 #[(.pointer (some ⟨bb, 0, none⟩)), (S s)] w fun e w' => ∃ v' hs', e = .returned (.tuple #[.int .i64 (s.length : Int), .nilIface]) ∧ Own 5 1 v' (l ++ s).length ((l ++ s).map bV) hs' ∧ (l ++ s = [] → v' = .slice none 0 0) ∧ Has E w' [hs', [Hp.one bb (.cells #[(.pointer (some ⟨bb, 0, none⟩)), v'] 90 (0, 0))], R] := by
  refine c_enter (args := [(.pointer (some ⟨bb, 0, none⟩)), (S s)]) Tryd.func52 rfl Tryd.ntmps52 (by simp) ?_
  refine wp_seq_k fun K1 hK1 => ?_
  refine c_region ?_
  refine s_op (o_assign (v := (.int .i64 0)) rfl ?_)
  refine s_op (o_assign (v := Value.nilIface) rfl ?_)
  refine s_nil ?_
  refine t_norm (hK1 _ _ ?_)
  refine wp_seq_k fun K2 hK2 => ?_
  refine c_region ?_
  refine s_op (o_move (v := (.pointer (some ⟨bb, 0, none⟩))) rfl ?_)
  refine s_op (o_callf (vs := #[(.pointer (some ⟨bb, 0, none⟩))]) ca86 rfl (args1 rfl) (cc_f (hH.front 1 rfl).all1) ?_)
  rintro _ w5 ⟨rfl, hX3⟩
  refine ⟨_, rfl, ?_⟩
  have hH4 : Has E w5 [[Hp.one bb (.cells #[(.pointer (some ⟨bb, 0, none⟩)), v] 90 (0, 0))], hs, R] := hX3.of_all1
  refine s_nil ?_
  refine t_norm (hK2 _ _ ?_)
  refine wp_seq_k fun K6 hK6 => ?_
  refine c_region ?_
  refine s_op (o_move (v := (.pointer (some ⟨bb, 0, none⟩))) rfl ?_)
  refine s_op (o_move (v := (.pointer (some ⟨bb, 0, none⟩))) rfl ?_)
  refine s_op (o_nilCheck rfl ?_)
  refine s_op (o_fieldAddr (k := 1) (fun _ => by kernel_rfl) rfl ?_)
  refine s_op (o_load1 (v := v) Tryd.underlying55 rfl rfl hH4 (seg_sub 0 rfl) (CellsAt.one rfl) ?_)
  refine s_op (o_move (v := (S s)) rfl ?_)
  refine s_op (o_appstr Tryd.underlying55 Tryd.underlying9 ti5 rfl ho rfl (hH4.front 1 rfl) (by omega) fun v7 s8 w11 ho9 hn10 hH12 => ?_)
  have ho9 : Own 5 1 v7 (l ++ s).length ((l ++ s).map bV) s8 := by rw [List.length_append, List.map_append]; exact ho9
  refine s_op (o_nilCheck rfl ?_)
  refine s_op (o_fieldAddr (k := 1) (fun _ => by kernel_rfl) rfl ?_)
  refine s_eff (o_store1 (c' := #[(.pointer (some ⟨bb, 0, none⟩)), v7]) ti55 rfl rfl ho9.one (by simp) rfl (hH12.front 1 rfl) fun w13 hH14 => ?_)
  refine s_nil ?_
  refine t_norm (hK6 _ _ ?_)
  refine wp_seq_k fun K15 hK15 => ?_
  refine c_region ?_
  refine s_op (o_move (v := (S s)) rfl ?_)
  refine s_op (o_slen Tryd.underlying9 rfl ?_)
  refine s_op (o_assign (v := (.int .i64 (s.length : Int))) rfl ?_)
  refine s_op (o_assign (v := Value.nilIface) rfl ?_)
  refine s_nil ?_
  refine t_norm (hK15 _ _ ?_)
  refine wp_ret ?_
  refine c_ret2 Tryd.results52  (v := (.int .i64 (s.length : Int))) rfl (x := Value.nilIface) rfl ?_
  have hH16 : Has E w13 [s8, [Hp.one bb (.cells #[(.pointer (some ⟨bb, 0, none⟩)), v7] 90 (0, 0))], R] := (((hH14.front 2 rfl).front 1 rfl).front 2 rfl).first 3 rfl
  exact ⟨_, _, rfl, ho9, fun h => hn10 (hnil (List.append_eq_nil_iff.1 h).1) (List.append_eq_nil_iff.1 h).2, hH16⟩
set_option maxHeartbeats 4000000 in
theorem ws_u {E w : World} {R hs : List Hp} {bb : Nat} {v : Value} {l : List UInt8} (hH : Has E w [hs, [Hp.one bb (.cells #[(.pointer (some ⟨bb, 0, none⟩)), v] 90 (0, 0))], R]) (ho : Own 5 1 v l.length (l.map bV) hs) (hnil : l = [] → v = .slice none 0 0) (s : List UInt8) (hb : l.length + s.length ≤ 140737488355328) :
    Calls Tryd.prog 52 #[(.pointer (some ⟨bb, 0, none⟩)), (S s)] w fun e w' => ∃ v' hs', e = .returned (.tuple #[.int .i64 (s.length : Int), .nilIface]) ∧ Own 5 1 v' (l ++ s).length ((l ++ s).map bV) hs' ∧ (l ++ s = [] → v' = .slice none 0 0) ∧ Has E w' [hs', [Hp.one bb (.cells #[(.pointer (some ⟨bb, 0, none⟩)), v'] 90 (0, 0))], R] := by
  refine c_enter (args := [(.pointer (some ⟨bb, 0, none⟩)), (S s)]) Tryd.func52 rfl Tryd.ntmps52 (by simp) ?_
  refine wp_seq_k fun K1 hK1 => ?_
  refine c_region ?_
  refine s_op (o_assign (v := (.int .i64 0)) rfl ?_)
  refine s_op (o_assign (v := Value.nilIface) rfl ?_)
  refine s_nil ?_
  refine t_norm (hK1 _ _ ?_)
  refine wp_seq_k fun K2 hK2 => ?_
  refine c_region ?_
  refine s_op (o_move (v := (.pointer (some ⟨bb, 0, none⟩))) rfl ?_)
  refine s_op (o_callf (vs := #[(.pointer (some ⟨bb, 0, none⟩))]) ca86 rfl (args1 rfl) (cc_u (hH.front 1 rfl).all1) ?_)
  rintro _ w5 ⟨rfl, hX3⟩
  refine ⟨_, rfl, ?_⟩
  have hH4 : Has E w5 [[Hp.one bb (.cells #[(.pointer (some ⟨bb, 0, none⟩)), v] 90 (0, 0))], hs, R] := hX3.of_all1
  refine s_nil ?_
  refine t_norm (hK2 _ _ ?_)
  refine wp_seq_k fun K6 hK6 => ?_
  refine c_region ?_
  refine s_op (o_move (v := (.pointer (some ⟨bb, 0, none⟩))) rfl ?_)
  refine s_op (o_move (v := (.pointer (some ⟨bb, 0, none⟩))) rfl ?_)
  refine s_op (o_nilCheck rfl ?_)
  refine s_op (o_fieldAddr (k := 1) (fun _ => by kernel_rfl) rfl ?_)
  refine s_op (o_load1 (v := v) Tryd.underlying55 rfl rfl hH4 (seg_sub 0 rfl) (CellsAt.one rfl) ?_)
  refine s_op (o_move (v := (S s)) rfl ?_)
  refine s_op (o_appstr Tryd.underlying55 Tryd.underlying9 ti5 rfl ho rfl (hH4.front 1 rfl) (by omega) fun v7 s8 w11 ho9 hn10 hH12 => ?_)
  have ho9 : Own 5 1 v7 (l ++ s).length ((l ++ s).map bV) s8 := by rw [List.length_append, List.map_append]; exact ho9
  refine s_op (o_nilCheck rfl ?_)
  refine s_op (o_fieldAddr (k := 1) (fun _ => by kernel_rfl) rfl ?_)
  refine s_eff (o_store1 (c' := #[(.pointer (some ⟨bb, 0, none⟩)), v7]) ti55 rfl rfl ho9.one (by simp) rfl (hH12.front 1 rfl) fun w13 hH14 => ?_)
  refine s_nil ?_
  refine t_norm (hK6 _ _ ?_)
  refine wp_seq_k fun K15 hK15 => ?_
  refine c_region ?_
  refine s_op (o_move (v := (S s)) rfl ?_)
  refine s_op (o_slen Tryd.underlying9 rfl ?_)
  refine s_op (o_assign (v := (.int .i64 (s.length : Int))) rfl ?_)
  refine s_op (o_assign (v := Value.nilIface) rfl ?_)
  refine s_nil ?_
  refine t_norm (hK15 _ _ ?_)
  refine wp_ret ?_
  refine c_ret2 Tryd.results52  (v := (.int .i64 (s.length : Int))) rfl (x := Value.nilIface) rfl ?_
  have hH16 : Has E w13 [s8, [Hp.one bb (.cells #[(.pointer (some ⟨bb, 0, none⟩)), v7] 90 (0, 0))], R] := (((hH14.front 2 rfl).front 1 rfl).front 2 rfl).first 3 rfl
  exact ⟨_, _, rfl, ho9, fun h => hn10 (hnil (List.append_eq_nil_iff.1 h).1) (List.append_eq_nil_iff.1 h).2, hH16⟩
set_option maxHeartbeats 4000000 in
theorem bs_nil {E w : World} {R : List Hp} {bb : Nat} {a : Value} (hH : Has E w [[Hp.one bb (.cells #[a, (.slice none 0 0)] 90 (0, 0))], R]) :
    Calls Tryd.prog 56 #[(.pointer (some ⟨bb, 0, none⟩))] w fun e w' => e = .returned (S ([] : List UInt8)) ∧ Has E w' [R] := by
  refine c_enter (args := [(.pointer (some ⟨bb, 0, none⟩))]) Tryd.func56 rfl Tryd.ntmps56 (by simp) ?_
  refine wp_seq_k fun K1 hK1 => ?_
  refine c_region ?_
  refine s_op (o_assign (v := (S ([] : List UInt8))) rfl ?_)
  refine s_nil ?_
  refine t_norm (hK1 _ _ ?_)
  refine wp_seq_k fun K2 hK2 => ?_
  refine Rest.region mixed (by kernel_rfl) ?_
  have hH3 : Has E { w with drawn := w.drawn + 1 } [[Hp.one bb (.cells #[a, (.slice none 0 0)] 90 (0, 0))], R] := Has0.drew hH _
  refine Rest.phaseA (fun w_ => Has E w_ [[Hp.one bb (.cells #[a, (.slice none 0 0)] 90 (0, 0))]]) 0 10 10 rfl (by decide) (by kernel_rfl) ?_
  refine a_op 0 rfl (by kernel_rfl) (fun w_ h_ => o_move (v := (.pointer (some ⟨bb, 0, none⟩))) rfl ⟨rfl, rfl⟩) ?_
  refine a_op 1 rfl (by kernel_rfl) (fun w_ h_ => o_nilCheck rfl ⟨rfl, rfl⟩) ?_
  refine a_op 2 rfl (by kernel_rfl) (fun w_ h_ => o_fieldAddr (k := 1) (fun _ => by kernel_rfl) rfl ⟨rfl, rfl⟩) ?_
  refine a_op 3 rfl (by kernel_rfl) (fun w_ h_ => o_load1 (v := (.slice none 0 0)) Tryd.underlying55 rfl rfl h_ (seg_sub 0 rfl) (CellsAt.one rfl) ⟨rfl, rfl⟩) ?_
  refine a_op 5 rfl (by kernel_rfl) (fun w_ h_ => o_move (v := (.pointer (some ⟨bb, 0, none⟩))) rfl ⟨rfl, rfl⟩) ?_
  refine a_op 6 rfl (by kernel_rfl) (fun w_ h_ => o_nilCheck rfl ⟨rfl, rfl⟩) ?_
  refine a_op 7 rfl (by kernel_rfl) (fun w_ h_ => o_fieldAddr (k := 1) (fun _ => by kernel_rfl) rfl ⟨rfl, rfl⟩) ?_
  refine a_op 8 rfl (by kernel_rfl) (fun w_ h_ => o_load1 (v := (.slice none 0 0)) Tryd.underlying55 rfl rfl h_ (seg_sub 0 rfl) (CellsAt.one rfl) ⟨rfl, rfl⟩) ?_
  refine a_op 9 rfl (by kernel_rfl) (fun w_ h_ => o_lenS Tryd.underlying55 rfl (sl_nil (L := []) 1) ⟨rfl, rfl⟩) ?_
  have hH4 : Has E { w with drawn := w.drawn + 1 } [[Hp.one bb (.cells #[a, (.slice none 0 0)] 90 (0, 0))]] := hH3.first 1 rfl
  refine a_w 4 rfl (by kernel_rfl) hH4 (o_uSDnil rfl ?_)
  have hH5 : Has E { w with drawn := w.drawn + 1 } [[Hp.one bb (.cells #[a, (.slice none 0 0)] 90 (0, 0))]] := hH3.first 1 rfl
  refine a_done (by kernel_rfl) hH5 ?_
  refine r_op 10 rfl (by kernel_rfl) (o_uStrNil rfl rfl ?_)
  refine r_op 11 rfl (by kernel_rfl) (o_assign (v := (S ([] : List UInt8))) rfl ?_)
  refine Rest.done (by kernel_rfl) ?_
  refine t_norm (hK2 _ _ ?_)
  refine wp_ret ?_
  refine c_ret1 Tryd.results56  (v := (S ([] : List UInt8))) rfl ?_
  have hH6 : Has E { w with drawn := w.drawn + 1 } [R] := (hH3.front 1 rfl).first 1 rfl
  exact ⟨rfl, hH6⟩
set_option maxHeartbeats 4000000 in
theorem bs_row {E w : World} {R : List Hp} {bb : Nat} {a : Value} {g cap : Nat} {hs : List Hp} {l : List UInt8} (hH : Has E w [hs, [Hp.one bb (.cells #[a, (.slice (some ⟨g, 0, none⟩) l.length cap)] 90 (0, 0))], R]) (ho : Own 5 1 (.slice (some ⟨g, 0, none⟩) l.length cap) l.length (l.map bV) hs) (hne : l ≠ []) (hcap : cap ≠ 0) :
    Calls Tryd.prog 56 #[(.pointer (some ⟨bb, 0, none⟩))] w fun e w' => e = .returned (S l) ∧ Has E w' [R] := by
  refine c_enter (args := [(.pointer (some ⟨bb, 0, none⟩))]) Tryd.func56 rfl Tryd.ntmps56 (by simp) ?_
  refine wp_seq_k fun K1 hK1 => ?_
  refine c_region ?_
  refine s_op (o_assign (v := (S ([] : List UInt8))) rfl ?_)
  refine s_nil ?_
  refine t_norm (hK1 _ _ ?_)
  refine wp_seq_k fun K2 hK2 => ?_
  refine Rest.region mixed (by kernel_rfl) ?_
  have hH3 : Has E { w with drawn := w.drawn + 1 } [hs, [Hp.one bb (.cells #[a, (.slice (some ⟨g, 0, none⟩) l.length cap)] 90 (0, 0))], R] := Has0.drew hH _
  refine Rest.phaseA (fun w_ => Has E w_ [[Hp.one bb (.cells #[a, (.slice (some ⟨g, 0, none⟩) l.length cap)] 90 (0, 0))]]) 0 10 10 rfl (by decide) (by kernel_rfl) ?_
  refine a_op 0 rfl (by kernel_rfl) (fun w_ h_ => o_move (v := (.pointer (some ⟨bb, 0, none⟩))) rfl ⟨rfl, rfl⟩) ?_
  refine a_op 1 rfl (by kernel_rfl) (fun w_ h_ => o_nilCheck rfl ⟨rfl, rfl⟩) ?_
  refine a_op 2 rfl (by kernel_rfl) (fun w_ h_ => o_fieldAddr (k := 1) (fun _ => by kernel_rfl) rfl ⟨rfl, rfl⟩) ?_
  refine a_op 3 rfl (by kernel_rfl) (fun w_ h_ => o_load1 (v := (.slice (some ⟨g, 0, none⟩) l.length cap)) Tryd.underlying55 rfl rfl h_ (seg_sub 0 rfl) (CellsAt.one rfl) ⟨rfl, rfl⟩) ?_
  refine a_op 5 rfl (by kernel_rfl) (fun w_ h_ => o_move (v := (.pointer (some ⟨bb, 0, none⟩))) rfl ⟨rfl, rfl⟩) ?_
  refine a_op 6 rfl (by kernel_rfl) (fun w_ h_ => o_nilCheck rfl ⟨rfl, rfl⟩) ?_
  refine a_op 7 rfl (by kernel_rfl) (fun w_ h_ => o_fieldAddr (k := 1) (fun _ => by kernel_rfl) rfl ⟨rfl, rfl⟩) ?_
  refine a_op 8 rfl (by kernel_rfl) (fun w_ h_ => o_load1 (v := (.slice (some ⟨g, 0, none⟩) l.length cap)) Tryd.underlying55 rfl rfl h_ (seg_sub 0 rfl) (CellsAt.one rfl) ⟨rfl, rfl⟩) ?_
  refine a_op 9 rfl (by kernel_rfl) (fun w_ h_ => o_lenS Tryd.underlying55 rfl ho.sl ⟨rfl, rfl⟩) ?_
  have hH4 : Has E { w with drawn := w.drawn + 1 } [[Hp.one bb (.cells #[a, (.slice (some ⟨g, 0, none⟩) l.length cap)] 90 (0, 0))]] := (hH3.front 1 rfl).first 1 rfl
  refine a_w 4 rfl (by kernel_rfl) hH4 (o_uSD (a := ⟨g, 0, none⟩) rfl hcap ?_)
  have hH5 : Has E { w with drawn := w.drawn + 1 } [[Hp.one bb (.cells #[a, (.slice (some ⟨g, 0, none⟩) l.length cap)] 90 (0, 0))]] := (hH3.front 1 rfl).first 1 rfl
  refine a_done (by kernel_rfl) hH5 ?_
  refine r_op 10 rfl (by kernel_rfl) (o_uStr Tryd.underlying131 (by kernel_rfl) rfl rfl ho hne hH3 fun w6 hH7 => ?_)
  refine r_op 11 rfl (by kernel_rfl) (o_assign (v := (S l)) rfl ?_)
  refine Rest.done (by kernel_rfl) ?_
  refine t_norm (hK2 _ _ ?_)
  refine wp_ret ?_
  refine c_ret1 Tryd.results56  (v := (S l)) rfl ?_
  have hH8 : Has E w6 [R] := (hH7.front 1 rfl).first 1 rfl
  exact ⟨rfl, hH8⟩
/-- A builder that holds these bytes. -/
def Bld (b : Nat) (l : List UInt8) (sg : List Hp) : Prop := ∃ a v hs, sg = hs ++ [Hp.one b (.cells #[a, v] 90 (0, 0))] ∧ (a = .pointer none ∨ a = .pointer (some ⟨b, 0, none⟩)) ∧ Own 5 1 v l.length (l.map bV) hs ∧ (l = [] → v = .slice none 0 0)
theorem Bld.new (b : Nat) : Bld b [] [Hp.one b (.cells #[.pointer none, .slice none 0 0] 90 (0, 0))] := ⟨_, _, [], rfl, .inl rfl, Own.nil 5 1, fun _ => rfl⟩
theorem bws {E w : World} {R sg : List Hp} {b : Nat} {l : List UInt8} (hH : Has E w [sg, R]) (hB : Bld b l sg) (s : List UInt8) (hb : l.length + s.length ≤ 140737488355328) :
    Calls Tryd.prog 52 #[.pointer (some ⟨b, 0, none⟩), S s] w fun e w' => ∃ sg', e = .returned (.tuple #[.int .i64 (s.length : Int), .nilIface]) ∧ Bld b (l ++ s) sg' ∧ Has E w' [sg', R] := by
  obtain ⟨a, v, hs, rfl, rfl | rfl, ho, hn⟩ := hB
  · exact (ws_f hH.open2 ho hn s hb).mono fun e w' ⟨v', hs', he, ho', hn', hH'⟩ => ⟨_, he, ⟨_, _, _, rfl, .inr rfl, ho', hn'⟩, hH'.close2⟩
  · exact (ws_u hH.open2 ho hn s hb).mono fun e w' ⟨v', hs', he, ho', hn', hH'⟩ => ⟨_, he, ⟨_, _, _, rfl, .inr rfl, ho', hn'⟩, hH'.close2⟩
theorem bstr {E w : World} {R sg : List Hp} {b : Nat} {l : List UInt8} (hH : Has E w [sg, R]) (hB : Bld b l sg) :
    Calls Tryd.prog 56 #[.pointer (some ⟨b, 0, none⟩)] w fun e w' => e = .returned (S l) ∧ Has E w' [R] := by
  obtain ⟨a, v, hs, rfl, _, ho, hn⟩ := hB
  by_cases hl : l = []
  · obtain rfl := hn hl
    subst hl
    exact bs_nil hH.open2.drop
  · have ho2 := ho
    obtain ⟨hlc, ⟨_, h, _⟩ | ⟨g, cap, cur, rfl, rfl, hnc, _⟩⟩ := ho
    · exact absurd (List.eq_nil_of_length_eq_zero h) hl
    · exact bs_row hH.open2 ho2 hl (fun e => hl (List.eq_nil_of_length_eq_zero (by omega)))
end Go.Q
namespace Go.Q
open Go.Proofs
set_option linter.unusedVariables false
set_option maxRecDepth 100000
attribute [local irreducible] wpList OK Code.wp
set_option maxHeartbeats 4000000 in
theorem bsK_nil {E w : World} {R : List Hp} {bb : Nat} {a : Value} (hH : Has E w [[Hp.one bb (.cells #[a, (.slice none 0 0)] 90 (0, 0))], R]) :
    Calls Tryd.prog 56 #[(.pointer (some ⟨bb, 0, none⟩))] w fun e w' => e = .returned (S ([] : List UInt8)) ∧ Has E w' [[Hp.one bb (.cells #[a, (.slice none 0 0)] 90 (0, 0))], R] := by
  refine c_enter (args := [(.pointer (some ⟨bb, 0, none⟩))]) Tryd.func56 rfl Tryd.ntmps56 (by simp) ?_
  refine wp_seq_k fun K1 hK1 => ?_
  refine c_region ?_
  refine s_op (o_assign (v := (S ([] : List UInt8))) rfl ?_)
  refine s_nil ?_
  refine t_norm (hK1 _ _ ?_)
  refine wp_seq_k fun K2 hK2 => ?_
  refine Rest.region mixed (by kernel_rfl) ?_
  have hH3 : Has E { w with drawn := w.drawn + 1 } [[Hp.one bb (.cells #[a, (.slice none 0 0)] 90 (0, 0))], R] := Has0.drew hH _
  refine Rest.phaseA (fun w_ => Has E w_ [[Hp.one bb (.cells #[a, (.slice none 0 0)] 90 (0, 0))]]) 0 10 10 rfl (by decide) (by kernel_rfl) ?_
  refine a_op 0 rfl (by kernel_rfl) (fun w_ h_ => o_move (v := (.pointer (some ⟨bb, 0, none⟩))) rfl ⟨rfl, rfl⟩) ?_
  refine a_op 1 rfl (by kernel_rfl) (fun w_ h_ => o_nilCheck rfl ⟨rfl, rfl⟩) ?_
  refine a_op 2 rfl (by kernel_rfl) (fun w_ h_ => o_fieldAddr (k := 1) (fun _ => by kernel_rfl) rfl ⟨rfl, rfl⟩) ?_
  refine a_op 3 rfl (by kernel_rfl) (fun w_ h_ => o_load1 (v := (.slice none 0 0)) Tryd.underlying55 rfl rfl h_ (seg_sub 0 rfl) (CellsAt.one rfl) ⟨rfl, rfl⟩) ?_
  refine a_op 5 rfl (by kernel_rfl) (fun w_ h_ => o_move (v := (.pointer (some ⟨bb, 0, none⟩))) rfl ⟨rfl, rfl⟩) ?_
  refine a_op 6 rfl (by kernel_rfl) (fun w_ h_ => o_nilCheck rfl ⟨rfl, rfl⟩) ?_
  refine a_op 7 rfl (by kernel_rfl) (fun w_ h_ => o_fieldAddr (k := 1) (fun _ => by kernel_rfl) rfl ⟨rfl, rfl⟩) ?_
  refine a_op 8 rfl (by kernel_rfl) (fun w_ h_ => o_load1 (v := (.slice none 0 0)) Tryd.underlying55 rfl rfl h_ (seg_sub 0 rfl) (CellsAt.one rfl) ⟨rfl, rfl⟩) ?_
  refine a_op 9 rfl (by kernel_rfl) (fun w_ h_ => o_lenS Tryd.underlying55 rfl (sl_nil (L := []) 1) ⟨rfl, rfl⟩) ?_
  have hH4 : Has E { w with drawn := w.drawn + 1 } [[Hp.one bb (.cells #[a, (.slice none 0 0)] 90 (0, 0))]] := hH3.first 1 rfl
  refine a_w 4 rfl (by kernel_rfl) hH4 (o_uSDnil rfl ?_)
  have hH5 : Has E { w with drawn := w.drawn + 1 } [[Hp.one bb (.cells #[a, (.slice none 0 0)] 90 (0, 0))]] := hH3.first 1 rfl
  refine a_done (by kernel_rfl) hH5 ?_
  refine r_op 10 rfl (by kernel_rfl) (o_uStrNil rfl rfl ?_)
  refine r_op 11 rfl (by kernel_rfl) (o_assign (v := (S ([] : List UInt8))) rfl ?_)
  refine Rest.done (by kernel_rfl) ?_
  refine t_norm (hK2 _ _ ?_)
  refine wp_ret ?_
  refine c_ret1 Tryd.results56  (v := (S ([] : List UInt8))) rfl ?_
  exact ⟨rfl, hH3⟩
set_option maxHeartbeats 4000000 in
theorem bsK_row {E w : World} {R : List Hp} {bb : Nat} {a : Value} {g cap : Nat} {hs : List Hp} {l : List UInt8} (hH : Has E w [hs, [Hp.one bb (.cells #[a, (.slice (some ⟨g, 0, none⟩) l.length cap)] 90 (0, 0))], R]) (ho : Own 5 1 (.slice (some ⟨g, 0, none⟩) l.length cap) l.length (l.map bV) hs) (hne : l ≠ []) (hcap : cap ≠ 0) :
    Calls Tryd.prog 56 #[(.pointer (some ⟨bb, 0, none⟩))] w fun e w' => e = .returned (S l) ∧ Has E w' [[Hp.one bb (.cells #[a, (.slice (some ⟨g, 0, none⟩) l.length cap)] 90 (0, 0))], R] := by
  refine c_enter (args := [(.pointer (some ⟨bb, 0, none⟩))]) Tryd.func56 rfl Tryd.ntmps56 (by simp) ?_
  refine wp_seq_k fun K1 hK1 => ?_
  refine c_region ?_
  refine s_op (o_assign (v := (S ([] : List UInt8))) rfl ?_)
  refine s_nil ?_
  refine t_norm (hK1 _ _ ?_)
  refine wp_seq_k fun K2 hK2 => ?_
  refine Rest.region mixed (by kernel_rfl) ?_
  have hH3 : Has E { w with drawn := w.drawn + 1 } [hs, [Hp.one bb (.cells #[a, (.slice (some ⟨g, 0, none⟩) l.length cap)] 90 (0, 0))], R] := Has0.drew hH _
  refine Rest.phaseA (fun w_ => Has E w_ [[Hp.one bb (.cells #[a, (.slice (some ⟨g, 0, none⟩) l.length cap)] 90 (0, 0))]]) 0 10 10 rfl (by decide) (by kernel_rfl) ?_
  refine a_op 0 rfl (by kernel_rfl) (fun w_ h_ => o_move (v := (.pointer (some ⟨bb, 0, none⟩))) rfl ⟨rfl, rfl⟩) ?_
  refine a_op 1 rfl (by kernel_rfl) (fun w_ h_ => o_nilCheck rfl ⟨rfl, rfl⟩) ?_
  refine a_op 2 rfl (by kernel_rfl) (fun w_ h_ => o_fieldAddr (k := 1) (fun _ => by kernel_rfl) rfl ⟨rfl, rfl⟩) ?_
  refine a_op 3 rfl (by kernel_rfl) (fun w_ h_ => o_load1 (v := (.slice (some ⟨g, 0, none⟩) l.length cap)) Tryd.underlying55 rfl rfl h_ (seg_sub 0 rfl) (CellsAt.one rfl) ⟨rfl, rfl⟩) ?_
  refine a_op 5 rfl (by kernel_rfl) (fun w_ h_ => o_move (v := (.pointer (some ⟨bb, 0, none⟩))) rfl ⟨rfl, rfl⟩) ?_
  refine a_op 6 rfl (by kernel_rfl) (fun w_ h_ => o_nilCheck rfl ⟨rfl, rfl⟩) ?_
  refine a_op 7 rfl (by kernel_rfl) (fun w_ h_ => o_fieldAddr (k := 1) (fun _ => by kernel_rfl) rfl ⟨rfl, rfl⟩) ?_
  refine a_op 8 rfl (by kernel_rfl) (fun w_ h_ => o_load1 (v := (.slice (some ⟨g, 0, none⟩) l.length cap)) Tryd.underlying55 rfl rfl h_ (seg_sub 0 rfl) (CellsAt.one rfl) ⟨rfl, rfl⟩) ?_
  refine a_op 9 rfl (by kernel_rfl) (fun w_ h_ => o_lenS Tryd.underlying55 rfl ho.sl ⟨rfl, rfl⟩) ?_
  have hH4 : Has E { w with drawn := w.drawn + 1 } [[Hp.one bb (.cells #[a, (.slice (some ⟨g, 0, none⟩) l.length cap)] 90 (0, 0))]] := (hH3.front 1 rfl).first 1 rfl
  refine a_w 4 rfl (by kernel_rfl) hH4 (o_uSD (a := ⟨g, 0, none⟩) rfl hcap ?_)
  have hH5 : Has E { w with drawn := w.drawn + 1 } [[Hp.one bb (.cells #[a, (.slice (some ⟨g, 0, none⟩) l.length cap)] 90 (0, 0))]] := (hH3.front 1 rfl).first 1 rfl
  refine a_done (by kernel_rfl) hH5 ?_
  refine r_op 10 rfl (by kernel_rfl) (o_uStr Tryd.underlying131 (by kernel_rfl) rfl rfl ho hne hH3 fun w6 hH7 => ?_)
  refine r_op 11 rfl (by kernel_rfl) (o_assign (v := (S l)) rfl ?_)
  refine Rest.done (by kernel_rfl) ?_
  refine t_norm (hK2 _ _ ?_)
  refine wp_ret ?_
  refine c_ret1 Tryd.results56  (v := (S l)) rfl ?_
  exact ⟨rfl, hH7⟩
set_option maxHeartbeats 4000000 in
theorem blenb {E w : World} {R : List Hp} {bb n c : Nat} {a : Value} {p : Option Addr} (hH : Has E w [[Hp.one bb (.cells #[a, (.slice p n c)] 90 (0, 0))], R]) :
    Calls Tryd.prog 58 #[(.pointer (some ⟨bb, 0, none⟩))] w fun e w' => e = .returned (.int .i64 (n : Int)) ∧ Has E w' [[Hp.one bb (.cells #[a, (.slice p n c)] 90 (0, 0))], R] := by
  refine c_enter (args := [(.pointer (some ⟨bb, 0, none⟩))]) Tryd.func58 rfl Tryd.ntmps58 (by simp) ?_
  refine wp_seq_k fun K1 hK1 => ?_
  refine c_region ?_
  refine s_op (o_assign (v := (.int .i64 0)) rfl ?_)
  refine s_nil ?_
  refine t_norm (hK1 _ _ ?_)
  refine wp_seq_k fun K2 hK2 => ?_
  refine c_region ?_
  refine s_op (o_move (v := (.pointer (some ⟨bb, 0, none⟩))) rfl ?_)
  refine s_op (o_nilCheck rfl ?_)
  refine s_op (o_fieldAddr (k := 1) (fun _ => by kernel_rfl) rfl ?_)
  refine s_op (o_load1 (v := (.slice p n c)) Tryd.underlying55 rfl rfl hH (seg_sub 0 rfl) (CellsAt.one rfl) ?_)
  refine s_op (o_len Tryd.underlying55 rfl ?_)
  refine s_op (o_assign (v := (.int .i64 (n : Int))) rfl ?_)
  refine s_nil ?_
  refine t_norm (hK2 _ _ ?_)
  refine wp_ret ?_
  refine c_ret1 Tryd.results58  (v := (.int .i64 (n : Int))) rfl ?_
  exact ⟨rfl, hH⟩
theorem bstrK {E w : World} {R sg : List Hp} {b : Nat} {l : List UInt8} (hH : Has E w [sg, R]) (hB : Bld b l sg) :
    Calls Tryd.prog 56 #[.pointer (some ⟨b, 0, none⟩)] w fun e w' => ∃ a p c, e = .returned (S l) ∧ Has E w' [[Hp.one b (.cells #[a, .slice p l.length c] 90 (0, 0))], R] := by
  obtain ⟨a, v, hs, rfl, _, ho, hn⟩ := hB
  by_cases hl : l = []
  · obtain rfl := hn hl
    subst hl
    exact (bsK_nil hH.open2.drop).mono fun e w' ⟨he, hH'⟩ => ⟨a, none, 0, he, hH'⟩
  · have ho2 := ho
    obtain ⟨hlc, ⟨_, h, _⟩ | ⟨g, cap, cur, rfl, rfl, hnc, _⟩⟩ := ho
    · exact absurd (List.eq_nil_of_length_eq_zero h) hl
    · exact (bsK_row hH.open2 ho2 hl (fun e => hl (List.eq_nil_of_length_eq_zero (by omega)))).mono fun e w' ⟨he, hH'⟩ => ⟨a, _, cap, he, hH'⟩
end Go.Q
namespace Go.Q
open Go.Proofs
set_option linter.unusedVariables false
set_option maxRecDepth 100000
attribute [local irreducible] wpList OK Code.wp
set_option maxHeartbeats 4000000 in
theorem sum_c {E w : World} {R : List Hp} (hH : Has E w [R]) {v : Value} {l : List Int} (hv : Ints R v l) :
    Calls Tryd.prog 65 #[v] w fun e w' => e = .returned (.int .i64 (sumS 0 l)) ∧ Has E w' [R] := by
  have hn := hv.le
  refine c_enter (args := [v]) Tryd.func65 rfl Tryd.ntmps65 (by simp) ?_
  refine wp_seq_k fun K1 hK1 => ?_
  refine c_region ?_
  refine s_op (o_assign (v := (.int .i64 0)) rfl ?_)
  refine s_nil ?_
  refine t_norm (hK1 _ _ ?_)
  refine wp_seq_k fun K2 hK2 => ?_
  refine c_region ?_
  refine s_op (o_assign (v := (.int .i64 0)) rfl ?_)
  refine s_nil ?_
  refine t_norm (hK2 _ _ ?_)
  refine wp_seq_k fun K3 hK3 => ?_
  refine wp_seq_k fun K4 hK4 => ?_
  refine c_region ?_
  refine s_op (o_move (v := v) rfl ?_)
  refine s_op (o_lenS Tryd.underlying56 rfl hv ?_)
  refine s_op (o_move (v := (.int .i64 0)) rfl ?_)
  refine s_nil ?_
  refine t_norm (hK4 _ _ ?_)
  refine wp_block ?_
  let I6 : Nat → (Nat → Value) → World → Prop := fun n__ r__ w__ => ∃ (k : Nat) (y : Int), n__ = l.length - k ∧ Has E w__ [R] ∧ (k ≤ l.length) ∧ (sumS 0 l = sumS y (l.drop k)) ∧ (0 ≤ y ∧ y ≤ 9223372036854775807) ∧ r__ 0 = v ∧ r__ 3 = (.int .i64 y) ∧ r__ 6 = v ∧ r__ 7 = (.int .i64 ((l.length : Nat) : Int)) ∧ r__ 8 = (.int .i64 (k : Int))
  refine c_loop I6 _ ⟨0, 0, rfl, hH, Nat.zero_le _, rfl, (by omega), rfl, rfl, rfl, rfl, rfl⟩ ?_
  rintro n_ r9 w7 ⟨k, y, rfl, hH8, hk, hy, hb, e5_0, e5_3, e5_6, e5_7, e5_8⟩
  refine wp_seq_k fun K10 hK10 => ?_
  refine c_region ?_
  refine s_op (o_lss (a := (k : Int)) (b := ((l.length : Nat) : Int)) e5_8 e5_7 ?_)
  refine s_nil ?_
  refine t_norm (hK10 _ _ ?_)
  refine wp_seq_k fun K11 hK11 => ?_
  refine c_cond rfl (fun h12 => ?_) (fun h12 => ?_)
  · -- (k : Int) < ((l.length : Nat) : Int)
    refine wp_skip ?_
    refine t_norm (hK11 _ _ ?_)
    refine wp_seq_k fun K13 hK13 => ?_
    refine wp_block ?_
    refine wp_seq_k fun K14 hK14 => ?_
    refine c_region ?_
    obtain ⟨x18, hx19⟩ : ∃ x_, l[((k : Int)).toNat]? = some x_ := get_some (by omega)
    refine s_op (o_index1 Tryd.underlying56 ti3 e5_6 hv e5_8 (by omega) hx19 fun b15 o16 hc17 => ?_)
    refine s_op (o_load1 (v := (.int .i64 x18)) Tryd.underlying3 rfl rfl hH8 (seg_sub 0 rfl) hc17 ?_)
    refine s_op (o_assign (v := (.int .i64 x18)) rfl ?_)
    refine s_nil ?_
    refine t_norm (hK14 _ _ ?_)
    refine wp_seq_k fun K20 hK20 => ?_
    refine wp_seq_k fun K21 hK21 => ?_
    refine c_region ?_
    refine s_op (o_move (v := (.int .i64 x18)) rfl ?_)
    refine s_op (o_move (v := (.int .i64 y)) e5_3 ?_)
    refine s_op (o_sub (a := 9223372036854775807) (b := y) rfl rfl (w64 (by omega) (by omega)) ?_)
    refine s_op (o_gtr (a := x18) (b := 9223372036854775807 - y) rfl rfl ?_)
    refine s_nil ?_
    refine t_norm (hK21 _ _ ?_)
    refine c_cond rfl (fun h22 => ?_) (fun h22 => ?_)
    · -- 9223372036854775807 - y < x18
      refine wp_seq_k fun K23 hK23 => ?_
      refine c_region ?_
      refine s_op (o_assign (v := (.int .i64 9223372036854775807)) rfl ?_)
      refine s_nil ?_
      refine t_norm (hK23 _ _ ?_)
      refine wp_ret ?_
      refine t_ret (b_ret (t_ret (t_ret (b_ret (t_ret (c_ret1 Tryd.results65  (v := (.int .i64 9223372036854775807)) rfl ?_))))))
      exact ⟨by rw [hy, drop_of (by simpa using hx19), sumS, if_pos (by omega)], hH8⟩
    · -- not: 9223372036854775807 - y < x18
      refine wp_skip ?_
      refine t_norm (hK20 _ _ ?_)
      refine c_region ?_
      refine s_op (o_move (v := (.int .i64 y)) e5_3 ?_)
      refine s_op (o_move (v := (.int .i64 x18)) rfl ?_)
      refine s_op (o_max (a := x18) (b := 0) rfl rfl ?_)
      refine s_op (o_add (a := y) (b := max x18 0) rfl rfl (w64 (by omega) (by omega)) ?_)
      refine s_op (o_assign (v := (.int .i64 (y + (max x18 0)))) rfl ?_)
      refine s_nil ?_
      refine b_norm ?_
      refine t_norm (hK13 _ _ ?_)
      refine c_region ?_
      refine s_op (o_add (a := (k : Int)) (b := 1) e5_8 rfl (w64 (by omega) (by omega)) ?_)
      refine s_op (o_move (v := (.int .i64 ((k : Int) + 1))) rfl ?_)
      refine s_nil ?_
      refine t_norm ⟨l.length - (k + 1), _, rfl, ?_, ?_⟩
      · omega
      · exact ⟨(k + 1), (y + (max x18 0)), rfl, hH8, (by omega), (by rw [hy, drop_of (by simpa using hx19), sumS, if_neg (by omega)]), (by omega), e5_0, rfl, e5_6, e5_7, rfl⟩
  · -- not: (k : Int) < ((l.length : Nat) : Int)
    refine wp_exit ?_
    refine t_exit (t_exit (x_in (?_)))
    refine t_norm (hK3 _ _ ?_)
    refine wp_seq_k fun K24 hK24 => ?_
    refine c_region ?_
    refine s_op (o_move (v := (.int .i64 y)) e5_3 ?_)
    refine s_op (o_assign (v := (.int .i64 y)) rfl ?_)
    refine s_nil ?_
    refine t_norm (hK24 _ _ ?_)
    refine wp_ret ?_
    refine c_ret1 Tryd.results65  (v := (.int .i64 y)) rfl ?_
    exact ⟨by rw [hy, List.drop_of_length_le (by omega)]; rfl, hH8⟩
set_option maxHeartbeats 4000000 in
theorem fits_c {E w : World} {R : List Hp} (hH : Has E w [R]) (n : Int) (m : Nat) (hm : m ≤ 8) :
    Calls Tryd.prog 87 #[(.int .i64 n), (.int .i64 (m : Int))] w fun e w' => e = .returned (.bool (fitsS n m)) ∧ Has E w' [R] := by
  refine c_enter (args := [(.int .i64 n), (.int .i64 (m : Int))]) Tryd.func87 rfl Tryd.ntmps87 (by simp) ?_
  refine wp_seq_k fun K1 hK1 => ?_
  refine c_region ?_
  refine s_op (o_assign (v := (.bool false)) rfl ?_)
  refine s_nil ?_
  refine t_norm (hK1 _ _ ?_)
  refine wp_seq_k fun K2 hK2 => ?_
  refine c_region ?_
  refine s_op (o_move (v := (.int .i64 n)) rfl ?_)
  refine s_op (o_geq (a := n) (b := 0) rfl rfl ?_)
  refine s_op (o_move (v := (.bool (decide (0 ≤ n)))) rfl ?_)
  by_cases h3 : 0 ≤ n
  · -- 0 ≤ n
    refine s_on 7 rfl (congrArg Value.bool (decide_eq_true h3)) (o_move (v := (.int .i64 (m : Int))) rfl ?_)
    refine s_on 7 rfl (congrArg Value.bool (decide_eq_true h3)) (o_eql (a := (m : Int)) (b := 8) rfl rfl ?_)
    refine s_on 7 rfl (congrArg Value.bool (decide_eq_true h3)) (o_move (v := (.bool (decide ((m : Int) = 8)))) rfl ?_)
    by_cases h4 : (m : Int) = 8
    · -- (m : Int) = 8
      refine s_off (b' := true) 10 rfl (congrArg Value.bool (decide_eq_true h4)) rfl ?_
      refine s_off (b' := true) 10 rfl (congrArg Value.bool (decide_eq_true h4)) rfl ?_
      refine s_off (b' := true) 10 rfl (congrArg Value.bool (decide_eq_true h4)) rfl ?_
      refine s_off (b' := true) 10 rfl (congrArg Value.bool (decide_eq_true h4)) rfl ?_
      refine s_off (b' := true) 10 rfl (congrArg Value.bool (decide_eq_true h4)) rfl ?_
      refine s_on 7 rfl (congrArg Value.bool (decide_eq_true h3)) (o_pick_t (u := (.bool true)) ((rfl : _ = _).trans (congrArg Value.bool (decide_eq_true h4))) rfl ?_)
      refine s_op (o_pick_t (u := (.bool true)) ((rfl : _ = _).trans (congrArg Value.bool (decide_eq_true h3))) rfl ?_)
      refine s_op (o_assign (v := (.bool true)) rfl ?_)
      refine s_nil ?_
      refine t_norm (hK2 _ _ ?_)
      refine wp_ret ?_
      refine c_ret1 Tryd.results87  (v := (.bool true)) rfl ?_
      exact ⟨by simp [fitsS, *], hH⟩
    · -- not: (m : Int) = 8
      refine s_on 10 rfl (congrArg Value.bool (decide_eq_false h4)) (o_move (v := (.int .i64 n)) rfl ?_)
      refine s_on 10 rfl (congrArg Value.bool (decide_eq_false h4)) (o_move (v := (.int .i64 (m : Int))) rfl ?_)
      refine s_on 10 rfl (congrArg Value.bool (decide_eq_false h4)) (o_mul (a := 8) (b := (m : Int)) rfl rfl (w64 (by omega) (by omega)) ?_)
      refine s_on 10 rfl (congrArg Value.bool (decide_eq_false h4)) (o_shr (c := Int.fdiv n (2 ^ (min (8 * (m : Int)).toNat 64))) rfl rfl (by omega) rfl ?_)
      refine s_on 10 rfl (congrArg Value.bool (decide_eq_false h4)) (o_eql (a := Int.fdiv n (2 ^ (min (8 * (m : Int)).toNat 64))) (b := 0) rfl rfl ?_)
      refine s_on 7 rfl (congrArg Value.bool (decide_eq_true h3)) (o_pick_f (u := (.bool (decide (Int.fdiv n (2 ^ (min (8 * (m : Int)).toNat 64)) = 0)))) ((rfl : _ = _).trans (congrArg Value.bool (decide_eq_false h4))) rfl ?_)
      refine s_op (o_pick_t (u := (.bool (decide (Int.fdiv n (2 ^ (min (8 * (m : Int)).toNat 64)) = 0)))) ((rfl : _ = _).trans (congrArg Value.bool (decide_eq_true h3))) rfl ?_)
      refine s_op (o_assign (v := (.bool (decide (Int.fdiv n (2 ^ (min (8 * (m : Int)).toNat 64)) = 0)))) rfl ?_)
      refine s_nil ?_
      refine t_norm (hK2 _ _ ?_)
      refine wp_ret ?_
      refine c_ret1 Tryd.results87  (v := (.bool (decide (Int.fdiv n (2 ^ (min (8 * (m : Int)).toNat 64)) = 0)))) rfl ?_
      exact ⟨by simp [fitsS, *], hH⟩
  · -- not: 0 ≤ n
    refine s_off (b' := false) 7 rfl (congrArg Value.bool (decide_eq_false h3)) rfl ?_
    refine s_off (b' := false) 7 rfl (congrArg Value.bool (decide_eq_false h3)) rfl ?_
    refine s_off (b' := false) 7 rfl (congrArg Value.bool (decide_eq_false h3)) rfl ?_
    refine s_offu 10 rfl rfl ?_
    refine s_offu 10 rfl rfl ?_
    refine s_offu 10 rfl rfl ?_
    refine s_offu 10 rfl rfl ?_
    refine s_offu 10 rfl rfl ?_
    refine s_off (b' := false) 7 rfl (congrArg Value.bool (decide_eq_false h3)) rfl ?_
    refine s_op (o_pick_f (u := (.bool false)) ((rfl : _ = _).trans (congrArg Value.bool (decide_eq_false h3))) rfl ?_)
    refine s_op (o_assign (v := (.bool false)) rfl ?_)
    refine s_nil ?_
    refine t_norm (hK2 _ _ ?_)
    refine wp_ret ?_
    refine c_ret1 Tryd.results87  (v := (.bool false)) rfl ?_
    exact ⟨by simp [fitsS, *], hH⟩
set_option maxHeartbeats 4000000 in
theorem put_c {E w : World} {R : List Hp} (hH : Has E w [R]) (m : Nat) {v : Value} {l : List Int} (hv : Ints R v l) (hl : l.length ≤ 1000000) :
    Calls Tryd.prog 53 #[(.int .i64 (m : Int)), v] w fun e w' => e = .returned (S (putS m l)) ∧ Has E w' [R] := by
  have hml0 : 0 ≤ (m : Int) * (l.length : Int) := Int.mul_nonneg (by omega) (by omega)
  have hml : m ≤ 8 → (m : Int) * (l.length : Int) ≤ 8000000 := fun h => by have h2 : m * l.length ≤ 8 * 1000000 := Nat.mul_le_mul h hl; have h3 := Int.ofNat_le.2 h2; rw [Int.natCast_mul] at h3; omega
  refine c_enter (args := [(.int .i64 (m : Int)), v]) Tryd.func53 rfl Tryd.ntmps53 (by simp) ?_
  refine wp_seq_k fun K1 hK1 => ?_
  refine c_region ?_
  refine s_op (o_assign (v := (S ([] : List UInt8))) rfl ?_)
  refine s_nil ?_
  refine t_norm (hK1 _ _ ?_)
  refine wp_seq_k fun K2 hK2 => ?_
  refine wp_seq_k fun K3 hK3 => ?_
  refine c_region ?_
  refine s_op (o_move (v := (.int .i64 (m : Int))) rfl ?_)
  refine s_op (o_lss (a := (m : Int)) (b := 1) rfl rfl ?_)
  refine s_op (o_move (v := (.bool (decide ((m : Int) < 1)))) rfl ?_)
  by_cases h4 : (m : Int) < 1
  · -- (m : Int) < 1
    refine s_off (b' := true) 11 rfl (congrArg Value.bool (decide_eq_true h4)) rfl ?_
    refine s_off (b' := true) 11 rfl (congrArg Value.bool (decide_eq_true h4)) rfl ?_
    refine s_op (o_pick_t (u := (.bool true)) ((rfl : _ = _).trans (congrArg Value.bool (decide_eq_true h4))) rfl ?_)
    refine s_nil ?_
    refine t_norm (hK3 _ _ ?_)
    refine c_true rfl rfl ?_
    refine wp_seq_k fun K5 hK5 => ?_
    refine c_region ?_
    refine s_op (o_assign (v := (S ([] : List UInt8))) rfl ?_)
    refine s_nil ?_
    refine t_norm (hK5 _ _ ?_)
    refine wp_ret ?_
    refine t_ret (c_ret1 Tryd.results53  (v := (S ([] : List UInt8))) rfl ?_)
    exact ⟨by rw [putS, if_neg (by omega)], hH⟩
  · -- not: (m : Int) < 1
    refine s_on 11 rfl (congrArg Value.bool (decide_eq_false h4)) (o_move (v := (.int .i64 (m : Int))) rfl ?_)
    refine s_on 11 rfl (congrArg Value.bool (decide_eq_false h4)) (o_gtr (a := (m : Int)) (b := 8) rfl rfl ?_)
    refine s_op (o_pick_f (u := (.bool (decide (8 < (m : Int))))) ((rfl : _ = _).trans (congrArg Value.bool (decide_eq_false h4))) rfl ?_)
    refine s_nil ?_
    refine t_norm (hK3 _ _ ?_)
    refine c_cond rfl (fun h6 => ?_) (fun h6 => ?_)
    · -- 8 < (m : Int)
      refine wp_seq_k fun K7 hK7 => ?_
      refine c_region ?_
      refine s_op (o_assign (v := (S ([] : List UInt8))) rfl ?_)
      refine s_nil ?_
      refine t_norm (hK7 _ _ ?_)
      refine wp_ret ?_
      refine t_ret (c_ret1 Tryd.results53  (v := (S ([] : List UInt8))) rfl ?_)
      exact ⟨by rw [putS, if_neg (by omega)], hH⟩
    · -- not: 8 < (m : Int)
      refine wp_skip ?_
      refine t_norm (hK2 _ _ ?_)
      refine wp_seq_k fun K8 hK8 => ?_
      refine c_region ?_
      refine s_op (o_move (v := (.int .i64 (m : Int))) rfl ?_)
      refine s_op (o_move (v := v) rfl ?_)
      refine s_op (o_lenS Tryd.underlying56 rfl hv ?_)
      refine s_op (o_mul (a := (m : Int)) (b := ((l.length : Nat) : Int)) rfl rfl (w64 (by omega) (by omega)) ?_)
      refine s_op (o_make Tryd.underlying55 ti5 rfl rfl (by omega) (by omega) (by omega) (by omega) hH fun v9 s10 w12 ho11 hH13 => ?_)
      have ho11 : Own 5 1 v9 0 [] s10 := by simpa using ho11
      refine s_op (o_assign (v := v9) rfl ?_)
      refine s_nil ?_
      refine t_norm (hK8 _ _ ?_)
      refine wp_seq_k fun K14 hK14 => ?_
      refine wp_seq_k fun K15 hK15 => ?_
      refine c_region ?_
      refine s_op (o_move (v := v) rfl ?_)
      refine s_op (o_lenS Tryd.underlying56 rfl hv ?_)
      refine s_op (o_move (v := (.int .i64 0)) rfl ?_)
      refine s_nil ?_
      refine t_norm (hK15 _ _ ?_)
      refine wp_block ?_
      let I17 : Nat → (Nat → Value) → World → Prop := fun n__ r__ w__ => ∃ (k : Nat) (vb : Value) (hs : List Hp) (lb : List UInt8), n__ = l.length - k ∧ Has E w__ [hs, R] ∧ (k ≤ l.length) ∧ (Own 5 1 vb lb.length (lb.map bV) hs) ∧ (lb = (l.take k).flatMap (beFrom · m)) ∧ (∀ x ∈ l.take k, fitsS x m = true) ∧ (lb.length ≤ 8 * k) ∧ r__ 0 = (.int .i64 (m : Int)) ∧ r__ 1 = v ∧ r__ 5 = vb ∧ r__ 14 = (.bool (decide (8 < (m : Int)))) ∧ r__ 20 = v ∧ r__ 21 = (.int .i64 ((l.length : Nat) : Int)) ∧ r__ 22 = (.int .i64 (k : Int))
      refine c_loop I17 _ ⟨0, v9, s10, [], rfl, hH13, Nat.zero_le _, ho11, rfl, (by simp), (by simp), rfl, rfl, rfl, rfl, rfl, rfl, rfl⟩ ?_
      rintro n_ r20 w18 ⟨k, vb, hs, lb, rfl, hH19, hk, hob, hlb, hfit, hlen, e16_0, e16_1, e16_5, e16_14, e16_20, e16_21, e16_22⟩
      refine wp_seq_k fun K21 hK21 => ?_
      refine c_region ?_
      refine s_op (o_lss (a := (k : Int)) (b := ((l.length : Nat) : Int)) e16_22 e16_21 ?_)
      refine s_nil ?_
      refine t_norm (hK21 _ _ ?_)
      refine wp_seq_k fun K22 hK22 => ?_
      refine c_cond rfl (fun h23 => ?_) (fun h23 => ?_)
      · -- (k : Int) < ((l.length : Nat) : Int)
        refine wp_skip ?_
        refine t_norm (hK22 _ _ ?_)
        refine wp_seq_k fun K24 hK24 => ?_
        refine wp_block ?_
        refine wp_seq_k fun K25 hK25 => ?_
        refine c_region ?_
        obtain ⟨x29, hx30⟩ : ∃ x_, l[((k : Int)).toNat]? = some x_ := get_some (by omega)
        refine s_op (o_index1 Tryd.underlying56 ti3 e16_20 hv e16_22 (by omega) hx30 fun b26 o27 hc28 => ?_)
        refine s_op (o_load1 (v := (.int .i64 x29)) Tryd.underlying3 rfl rfl hH19 (seg_sub 1 rfl) hc28 ?_)
        refine s_op (o_assign (v := (.int .i64 x29)) rfl ?_)
        refine s_nil ?_
        refine t_norm (hK25 _ _ ?_)
        refine wp_seq_k fun K31 hK31 => ?_
        refine wp_seq_k fun K32 hK32 => ?_
        refine c_region ?_
        refine s_op (o_move (v := (.int .i64 x29)) rfl ?_)
        refine s_op (o_move (v := (.int .i64 (m : Int))) e16_0 ?_)
        refine s_op (o_callf (vs := #[(.int .i64 x29), (.int .i64 (m : Int))]) ca87 rfl (args2 rfl rfl) (fits_c hH19.all x29 m (by omega)) ?_)
        rintro _ w35 ⟨rfl, hX33⟩
        refine ⟨_, rfl, ?_⟩
        have hH34 := hX33.of_all
        refine s_op (o_not rfl ?_)
        refine s_nil ?_
        refine t_norm (hK32 _ _ ?_)
        refine c_condb rfl (fun h36 => ?_) (fun h36 => ?_)
        · -- !(fitsS x29 m)
          have h36_n : (fitsS x29 m) = false := by simpa using h36
          refine wp_seq_k fun K37 hK37 => ?_
          refine c_region ?_
          refine s_op (o_assign (v := (S ([] : List UInt8))) rfl ?_)
          refine s_nil ?_
          refine t_norm (hK37 _ _ ?_)
          refine wp_ret ?_
          refine t_ret (b_ret (t_ret (t_ret (b_ret (t_ret (c_ret1 Tryd.results53  (v := (S ([] : List UInt8))) rfl ?_))))))
          have hH38 : Has E w35 [R] := (hH34.front 1 rfl).first 1 rfl
          exact ⟨by rw [putS_no (x := x29) (List.mem_of_getElem? hx30) (by simpa using h36)], hH38⟩
        · -- not: !(fitsS x29 m)
          have h36_n : (fitsS x29 m) = true := by simpa using h36
          refine wp_skip ?_
          refine t_norm (hK31 _ _ ?_)
          refine wp_seq_k fun K39 hK39 => ?_
          refine c_region ?_
          refine s_op (o_move (v := (.int .i64 (m : Int))) e16_0 ?_)
          refine s_op (o_sub (a := (m : Int)) (b := 1) rfl rfl (w64 (by omega) (by omega)) ?_)
          refine s_op (o_assign (v := (.int .i64 ((m : Int) - 1))) rfl ?_)
          refine s_nil ?_
          refine t_norm (hK39 _ _ ?_)
          refine wp_block ?_
          let I41 : Nat → (Nat → Value) → World → Prop := fun n__ r__ w__ => ∃ (j : Nat) (i : Int) (vc : Value) (hs2 : List Hp) (lc : List UInt8), n__ = j + 1 ∧ Has E w__ [hs2, R] ∧ (j ≤ m) ∧ (i = (j : Int) - 1) ∧ (Own 5 1 vc lc.length (lc.map bV) hs2) ∧ (lb ++ beFrom x29 m = lc ++ beFrom x29 j) ∧ (lc.length + j ≤ lb.length + m) ∧ r__ 0 = (.int .i64 (m : Int)) ∧ r__ 1 = v ∧ r__ 5 = vc ∧ r__ 7 = (.int .i64 x29) ∧ r__ 8 = (.int .i64 i) ∧ r__ 14 = (.bool (decide (8 < (m : Int)))) ∧ r__ 20 = v ∧ r__ 21 = (.int .i64 ((l.length : Nat) : Int)) ∧ r__ 22 = (.int .i64 (k : Int)) ∧ r__ 23 = (.bool (decide ((k : Int) < ((l.length : Nat) : Int)))) ∧ r__ 29 = (.bool (!(fitsS x29 m)))
          refine c_loop I41 _ ⟨m, ((m : Int) - 1), vb, hs, lb, rfl, hH34, Nat.le_refl _, rfl, hob, rfl, (by omega), e16_0, e16_1, e16_5, rfl, rfl, e16_14, e16_20, e16_21, e16_22, rfl, rfl⟩ ?_
          rintro n_ r44 w42 ⟨j, i, vc, hs2, lc, rfl, hH43, hj, hi, hoc, hpart, hlen2, e40_0, e40_1, e40_5, e40_7, e40_8, e40_14, e40_20, e40_21, e40_22, e40_23, e40_29⟩
          refine wp_seq_k fun K45 hK45 => ?_
          refine wp_seq_k fun K46 hK46 => ?_
          refine c_region ?_
          refine s_op (o_move (v := (.int .i64 i)) e40_8 ?_)
          refine s_op (o_geq (a := i) (b := 0) rfl rfl ?_)
          refine s_nil ?_
          refine t_norm (hK46 _ _ ?_)
          refine c_cond rfl (fun h47 => ?_) (fun h47 => ?_)
          · -- 0 ≤ i
            refine wp_skip ?_
            refine t_norm (hK45 _ _ ?_)
            refine wp_seq_k fun K48 hK48 => ?_
            refine wp_block ?_
            refine c_region ?_
            refine s_op (o_move (v := vc) e40_5 ?_)
            refine s_op (o_move (v := (.int .i64 x29)) e40_7 ?_)
            refine s_op (o_move (v := (.int .i64 i)) e40_8 ?_)
            refine s_op (o_mul (a := 8) (b := i) rfl rfl (w64 (by omega) (by omega)) ?_)
            refine s_op (o_shr (c := Int.fdiv x29 (2 ^ (min (8 * i).toNat 64))) rfl rfl (by omega) rfl ?_)
            refine s_op (o_conv (c := ((by8 (Int.fdiv x29 (2 ^ (min (8 * i).toNat 64)))).toNat : Int)) Tryd.underlying3 Tryd.underlying5 rfl (wrap_by8 _) ?_)
            refine s_op (o_buildSlice (ps := #[(0, (bV (by8 (Int.fdiv x29 (2 ^ (min (8 * i).toNat 64))))))]) (cells := #[(bV (by8 (Int.fdiv x29 (2 ^ (min (8 * i).toNat 64)))))]) Tryd.underlying55 ti5 (by decide) (parts1 rfl) (by kernel_rfl) hH43 fun b49 w50 hH51 => ?_)
            refine s_op (o_append Tryd.underlying55 ti5 rfl (by decide) rfl hoc rfl (sl_lit (f := bV) (l := [(by8 (Int.fdiv x29 (2 ^ (min (8 * i).toNat 64))))]) rfl rfl (by simp)) (hH51.front 1 rfl) (seg_sub 0 rfl) (one_bV _) (by simp; omega) (by simp; omega) fun v52 s53 w55 ho54 hH56 => ?_)
            have ho54 : Own 5 1 v52 (lc ++ [(by8 (Int.fdiv x29 (2 ^ (min (8 * i).toNat 64))))]).length ((lc ++ [(by8 (Int.fdiv x29 (2 ^ (min (8 * i).toNat 64))))]).map bV) s53 := ho54.app
            refine s_op (o_assign (v := v52) rfl ?_)
            refine s_nil ?_
            refine b_norm ?_
            refine t_norm (hK48 _ _ ?_)
            refine c_region ?_
            refine s_op (o_move (v := (.int .i64 i)) e40_8 ?_)
            refine s_op (o_sub (a := i) (b := 1) rfl rfl (w64 (by omega) (by omega)) ?_)
            refine s_op (o_assign (v := (.int .i64 (i - 1))) rfl ?_)
            refine s_nil ?_
            have hH57 : Has E w55 [s53, R] := ((hH56.front 2 rfl).front 1 rfl).first 2 rfl
            refine t_norm ⟨(j - 1) + 1, _, rfl, ?_, ?_⟩
            · omega
            · exact ⟨(j - 1), (i - 1), v52, s53, (lc ++ [(by8 (Int.fdiv x29 (2 ^ (min (8 * i).toNat 64))))]), rfl, hH57, (by omega), (by omega), (ho54), (by rw [hpart, beFrom_pred (by omega), hi, by8_shift _ (by omega) (by omega)]; simp [List.append_assoc]), (by simp; omega), e40_0, e40_1, rfl, e40_7, rfl, e40_14, e40_20, e40_21, e40_22, e40_23, e40_29⟩
          · -- not: 0 ≤ i
            refine wp_exit ?_
            refine t_exit (t_exit (x_in (?_)))
            refine b_norm ?_
            refine t_norm (hK24 _ _ ?_)
            refine c_region ?_
            refine s_op (o_add (a := (k : Int)) (b := 1) e40_22 rfl (w64 (by omega) (by omega)) ?_)
            refine s_op (o_move (v := (.int .i64 ((k : Int) + 1))) rfl ?_)
            refine s_nil ?_
            refine t_norm ⟨l.length - (k + 1), _, rfl, ?_, ?_⟩
            · omega
            · exact ⟨(k + 1), vc, hs2, lc, rfl, hH43, (by omega), (hoc), (by (have e : j = 0 := by omega); rw [e] at hpart; rw [take_succ_of (by simpa using hx30), List.flatMap_append, ← hlb]; simpa [beFrom] using hpart.symm), (by rw [take_succ_of (by simpa using hx30)]; exact fun x hx => (List.mem_append.1 hx).elim (hfit x) (fun h => by simp at h; subst h; simpa using h36)), (by omega), e40_0, e40_1, e40_5, e40_14, e40_20, e40_21, rfl⟩
      · -- not: (k : Int) < ((l.length : Nat) : Int)
        refine wp_exit ?_
        refine t_exit (t_exit (x_in (?_)))
        refine t_norm (hK14 _ _ ?_)
        refine wp_seq_k fun K58 hK58 => ?_
        refine c_region ?_
        refine s_op (o_move (v := vb) e16_5 ?_)
        refine s_op (o_bstr Tryd.underlying55 Tryd.underlying5 Tryd.underlying9 rfl hob.sl hH19 (seg_sub 0 rfl) ?_)
        refine s_op (o_assign (v := (S lb)) rfl ?_)
        refine s_nil ?_
        refine t_norm (hK58 _ _ ?_)
        refine wp_ret ?_
        refine c_ret1 Tryd.results53  (v := (S lb)) rfl ?_
        have hH59 : Has E w18 [R] := (hH19.front 1 rfl).first 1 rfl
        have e : k = l.length := by omega
        subst e
        rw [List.take_of_length_le (Nat.le_refl _)] at hlb hfit
        exact ⟨by rw [putS_yes (by omega) (by omega) hfit, hlb], hH59⟩
set_option maxHeartbeats 4000000 in
theorem take_c {E w : World} {R : List Hp} (hH : Has E w [R]) (m : Nat) (s : List UInt8) (hsl : s.length ≤ 9223372036854775807) :
    Calls Tryd.prog 49 #[(S s), (.int .i64 (m : Int))] w fun e w' => e = .returned (.tuple #[.int .i64 (takeS s m).1, S (takeS s m).2.1, .bool (takeS s m).2.2]) ∧ Has E w' [R] := by
  refine c_enter (args := [(S s), (.int .i64 (m : Int))]) Tryd.func49 rfl Tryd.ntmps49 (by simp) ?_
  refine wp_seq_k fun K1 hK1 => ?_
  refine c_region ?_
  refine s_op (o_assign (v := (.int .i64 0)) rfl ?_)
  refine s_op (o_assign (v := (S ([] : List UInt8))) rfl ?_)
  refine s_op (o_assign (v := (.bool false)) rfl ?_)
  refine s_nil ?_
  refine t_norm (hK1 _ _ ?_)
  refine wp_seq_k fun K2 hK2 => ?_
  refine wp_seq_k fun K3 hK3 => ?_
  refine c_region ?_
  refine s_op (o_move (v := (.int .i64 (m : Int))) rfl ?_)
  refine s_op (o_lss (a := (m : Int)) (b := 1) rfl rfl ?_)
  refine s_op (o_move (v := (.bool (decide ((m : Int) < 1)))) rfl ?_)
  by_cases h4 : (m : Int) < 1
  · -- (m : Int) < 1
    refine s_off (b' := true) 11 rfl (congrArg Value.bool (decide_eq_true h4)) rfl ?_
    refine s_off (b' := true) 11 rfl (congrArg Value.bool (decide_eq_true h4)) rfl ?_
    refine s_op (o_pick_t (u := (.bool true)) ((rfl : _ = _).trans (congrArg Value.bool (decide_eq_true h4))) rfl ?_)
    refine s_op (o_move (v := (.bool true)) rfl ?_)
    refine s_off (b' := true) 15 rfl rfl rfl ?_
    refine s_off (b' := true) 15 rfl rfl rfl ?_
    refine s_off (b' := true) 15 rfl rfl rfl ?_
    refine s_off (b' := true) 15 rfl rfl rfl ?_
    refine s_op (o_pick_t (u := (.bool true)) rfl rfl ?_)
    refine s_op (o_move (v := (.bool true)) rfl ?_)
    refine s_off (b' := true) 21 rfl rfl rfl ?_
    refine s_off (b' := true) 21 rfl rfl rfl ?_
    refine s_off (b' := true) 21 rfl rfl rfl ?_
    refine s_offu 24 rfl rfl ?_
    refine s_offu 24 rfl rfl ?_
    refine s_offu 24 rfl rfl ?_
    refine s_off (b' := true) 21 rfl rfl rfl ?_
    refine s_op (o_pick_t (u := (.bool true)) rfl rfl ?_)
    refine s_nil ?_
    refine t_norm (hK3 _ _ ?_)
    refine c_true rfl rfl ?_
    refine wp_seq_k fun K5 hK5 => ?_
    refine c_region ?_
    refine s_op (o_move (v := (S s)) rfl ?_)
    refine s_op (o_assign (v := (.int .i64 0)) rfl ?_)
    refine s_op (o_assign (v := (S s)) rfl ?_)
    refine s_op (o_assign (v := (.bool false)) rfl ?_)
    refine s_nil ?_
    refine t_norm (hK5 _ _ ?_)
    refine wp_ret ?_
    refine t_ret (c_ret3 Tryd.results49  (v := (.int .i64 0)) rfl (x := (S s)) rfl (y := (.bool false)) rfl ?_)
    exact ⟨by rw [takeS_no (by first | exact .inl (by omega) | exact .inr (.inl (by omega)) | exact .inr (.inr ⟨by omega, 0, by simpa using rfl, by omega⟩))], hH⟩
  · -- not: (m : Int) < 1
    refine s_on 11 rfl (congrArg Value.bool (decide_eq_false h4)) (o_move (v := (.int .i64 (m : Int))) rfl ?_)
    refine s_on 11 rfl (congrArg Value.bool (decide_eq_false h4)) (o_gtr (a := (m : Int)) (b := 8) rfl rfl ?_)
    refine s_op (o_pick_f (u := (.bool (decide (8 < (m : Int))))) ((rfl : _ = _).trans (congrArg Value.bool (decide_eq_false h4))) rfl ?_)
    refine s_op (o_move (v := (.bool (decide (8 < (m : Int))))) rfl ?_)
    by_cases h6 : 8 < (m : Int)
    · -- 8 < (m : Int)
      refine s_off (b' := true) 15 rfl (congrArg Value.bool (decide_eq_true h6)) rfl ?_
      refine s_off (b' := true) 15 rfl (congrArg Value.bool (decide_eq_true h6)) rfl ?_
      refine s_off (b' := true) 15 rfl (congrArg Value.bool (decide_eq_true h6)) rfl ?_
      refine s_off (b' := true) 15 rfl (congrArg Value.bool (decide_eq_true h6)) rfl ?_
      refine s_op (o_pick_t (u := (.bool true)) ((rfl : _ = _).trans (congrArg Value.bool (decide_eq_true h6))) rfl ?_)
      refine s_op (o_move (v := (.bool true)) rfl ?_)
      refine s_off (b' := true) 21 rfl rfl rfl ?_
      refine s_off (b' := true) 21 rfl rfl rfl ?_
      refine s_off (b' := true) 21 rfl rfl rfl ?_
      refine s_offu 24 rfl rfl ?_
      refine s_offu 24 rfl rfl ?_
      refine s_offu 24 rfl rfl ?_
      refine s_off (b' := true) 21 rfl rfl rfl ?_
      refine s_op (o_pick_t (u := (.bool true)) rfl rfl ?_)
      refine s_nil ?_
      refine t_norm (hK3 _ _ ?_)
      refine c_true rfl rfl ?_
      refine wp_seq_k fun K7 hK7 => ?_
      refine c_region ?_
      refine s_op (o_move (v := (S s)) rfl ?_)
      refine s_op (o_assign (v := (.int .i64 0)) rfl ?_)
      refine s_op (o_assign (v := (S s)) rfl ?_)
      refine s_op (o_assign (v := (.bool false)) rfl ?_)
      refine s_nil ?_
      refine t_norm (hK7 _ _ ?_)
      refine wp_ret ?_
      refine t_ret (c_ret3 Tryd.results49  (v := (.int .i64 0)) rfl (x := (S s)) rfl (y := (.bool false)) rfl ?_)
      exact ⟨by rw [takeS_no (by first | exact .inl (by omega) | exact .inr (.inl (by omega)) | exact .inr (.inr ⟨by omega, 0, by simpa using rfl, by omega⟩))], hH⟩
    · -- not: 8 < (m : Int)
      refine s_on 15 rfl (congrArg Value.bool (decide_eq_false h6)) (o_move (v := (S s)) rfl ?_)
      refine s_on 15 rfl (congrArg Value.bool (decide_eq_false h6)) (o_slen Tryd.underlying9 rfl ?_)
      refine s_on 15 rfl (congrArg Value.bool (decide_eq_false h6)) (o_move (v := (.int .i64 (m : Int))) rfl ?_)
      refine s_on 15 rfl (congrArg Value.bool (decide_eq_false h6)) (o_lss (a := (s.length : Int)) (b := (m : Int)) rfl rfl ?_)
      refine s_op (o_pick_f (u := (.bool (decide ((s.length : Int) < (m : Int))))) ((rfl : _ = _).trans (congrArg Value.bool (decide_eq_false h6))) rfl ?_)
      refine s_op (o_move (v := (.bool (decide ((s.length : Int) < (m : Int))))) rfl ?_)
      by_cases h8 : (s.length : Int) < (m : Int)
      · -- (s.length : Int) < (m : Int)
        refine s_off (b' := true) 21 rfl (congrArg Value.bool (decide_eq_true h8)) rfl ?_
        refine s_off (b' := true) 21 rfl (congrArg Value.bool (decide_eq_true h8)) rfl ?_
        refine s_off (b' := true) 21 rfl (congrArg Value.bool (decide_eq_true h8)) rfl ?_
        refine s_offu 24 rfl rfl ?_
        refine s_offu 24 rfl rfl ?_
        refine s_offu 24 rfl rfl ?_
        refine s_off (b' := true) 21 rfl (congrArg Value.bool (decide_eq_true h8)) rfl ?_
        refine s_op (o_pick_t (u := (.bool true)) ((rfl : _ = _).trans (congrArg Value.bool (decide_eq_true h8))) rfl ?_)
        refine s_nil ?_
        refine t_norm (hK3 _ _ ?_)
        refine c_true rfl rfl ?_
        refine wp_seq_k fun K9 hK9 => ?_
        refine c_region ?_
        refine s_op (o_move (v := (S s)) rfl ?_)
        refine s_op (o_assign (v := (.int .i64 0)) rfl ?_)
        refine s_op (o_assign (v := (S s)) rfl ?_)
        refine s_op (o_assign (v := (.bool false)) rfl ?_)
        refine s_nil ?_
        refine t_norm (hK9 _ _ ?_)
        refine wp_ret ?_
        refine t_ret (c_ret3 Tryd.results49  (v := (.int .i64 0)) rfl (x := (S s)) rfl (y := (.bool false)) rfl ?_)
        exact ⟨by rw [takeS_no (by first | exact .inl (by omega) | exact .inr (.inl (by omega)) | exact .inr (.inr ⟨by omega, 0, by simpa using rfl, by omega⟩))], hH⟩
      · -- not: (s.length : Int) < (m : Int)
        refine s_on 21 rfl (congrArg Value.bool (decide_eq_false h8)) (o_move (v := (.int .i64 (m : Int))) rfl ?_)
        refine s_on 21 rfl (congrArg Value.bool (decide_eq_false h8)) (o_eql (a := (m : Int)) (b := 8) rfl rfl ?_)
        refine s_on 21 rfl (congrArg Value.bool (decide_eq_false h8)) (o_move (v := (.bool (decide ((m : Int) = 8)))) rfl ?_)
        by_cases h10 : (m : Int) = 8
        · -- (m : Int) = 8
          refine s_on 24 rfl (congrArg Value.bool (decide_eq_true h10)) (o_move (v := (S s)) rfl ?_)
          obtain ⟨c11, hx12⟩ : ∃ x_, s[((0 : Int)).toNat]? = some x_ := get_some (by omega)
          have c11_lt := c11.toNat_lt
          refine s_on 24 rfl (congrArg Value.bool (decide_eq_true h10)) (o_sidx Tryd.underlying9 rfl rfl (by omega) hx12 ?_)
          refine s_on 24 rfl (congrArg Value.bool (decide_eq_true h10)) (o_gtr (a := (c11.toNat : Int)) (b := 127) rfl rfl ?_)
          refine s_on 21 rfl (congrArg Value.bool (decide_eq_false h8)) (o_pick_t (u := (.bool (decide (127 < (c11.toNat : Int))))) ((rfl : _ = _).trans (congrArg Value.bool (decide_eq_true h10))) rfl ?_)
          refine s_op (o_pick_f (u := (.bool (decide (127 < (c11.toNat : Int))))) ((rfl : _ = _).trans (congrArg Value.bool (decide_eq_false h8))) rfl ?_)
          refine s_nil ?_
          refine t_norm (hK3 _ _ ?_)
          refine c_cond rfl (fun h13 => ?_) (fun h13 => ?_)
          · -- 127 < (c11.toNat : Int)
            refine wp_seq_k fun K14 hK14 => ?_
            refine c_region ?_
            refine s_op (o_move (v := (S s)) rfl ?_)
            refine s_op (o_assign (v := (.int .i64 0)) rfl ?_)
            refine s_op (o_assign (v := (S s)) rfl ?_)
            refine s_op (o_assign (v := (.bool false)) rfl ?_)
            refine s_nil ?_
            refine t_norm (hK14 _ _ ?_)
            refine wp_ret ?_
            refine t_ret (c_ret3 Tryd.results49  (v := (.int .i64 0)) rfl (x := (S s)) rfl (y := (.bool false)) rfl ?_)
            exact ⟨by rw [takeS_no (by first | exact .inl (by omega) | exact .inr (.inl (by omega)) | exact .inr (.inr ⟨by omega, c11, by simpa using hx12, by omega⟩))], hH⟩
          · -- not: 127 < (c11.toNat : Int)
            refine wp_skip ?_
            refine t_norm (hK2 _ _ ?_)
            refine wp_seq_k fun K15 hK15 => ?_
            refine c_region ?_
            refine s_op (o_assign (v := (.int .i64 0)) rfl ?_)
            refine s_nil ?_
            refine t_norm (hK15 _ _ ?_)
            refine wp_seq_k fun K16 hK16 => ?_
            refine wp_seq_k fun K17 hK17 => ?_
            refine c_region ?_
            refine s_op (o_move (v := (.int .i64 (m : Int))) rfl ?_)
            refine s_op (o_move (v := (.int .i64 0)) rfl ?_)
            refine s_nil ?_
            refine t_norm (hK17 _ _ ?_)
            refine wp_block ?_
            let I19 : Nat → (Nat → Value) → World → Prop := fun n__ r__ w__ => ∃ (i : Nat) (y : Int), n__ = m - i ∧ Has E w__ [R] ∧ (i ≤ m) ∧ (y = beVal (s.take i)) ∧ r__ 0 = (S s) ∧ r__ 1 = (.int .i64 (m : Int)) ∧ r__ 4 = (.int .i64 0) ∧ r__ 5 = (S ([] : List UInt8)) ∧ r__ 6 = (.bool false) ∧ r__ 7 = (.int .i64 y) ∧ r__ 29 = (.bool (decide (127 < (c11.toNat : Int)))) ∧ r__ 31 = (.int .i64 (m : Int)) ∧ r__ 32 = (.int .i64 (i : Int))
            refine c_loop I19 _ ⟨0, 0, rfl, hH, Nat.zero_le _, rfl, rfl, rfl, rfl, rfl, rfl, rfl, rfl, rfl, rfl⟩ ?_
            rintro n_ r22 w20 ⟨i, y, rfl, hH21, hi, hy, e18_0, e18_1, e18_4, e18_5, e18_6, e18_7, e18_29, e18_31, e18_32⟩
            have hb0 := beVal_nonneg (s.take i)
            have hb1 : i < m → beVal (s.take i) < 36028797018963968 := fun h => beVal_lt h (by omega) (by omega) (.inr (first_byte (by simpa using hx12) (by omega)))
            refine wp_seq_k fun K23 hK23 => ?_
            refine c_region ?_
            refine s_op (o_lss (a := (i : Int)) (b := (m : Int)) e18_32 e18_31 ?_)
            refine s_nil ?_
            refine t_norm (hK23 _ _ ?_)
            refine wp_seq_k fun K24 hK24 => ?_
            refine c_cond rfl (fun h25 => ?_) (fun h25 => ?_)
            · -- (i : Int) < (m : Int)
              refine wp_skip ?_
              refine t_norm (hK24 _ _ ?_)
              refine wp_seq_k fun K26 hK26 => ?_
              refine wp_block ?_
              refine wp_seq_k fun K27 hK27 => ?_
              refine c_region ?_
              refine s_op (o_move (v := (.int .i64 (i : Int))) e18_32 ?_)
              refine s_op (o_assign (v := (.int .i64 (i : Int))) rfl ?_)
              refine s_nil ?_
              refine t_norm (hK27 _ _ ?_)
              refine c_region ?_
              refine s_op (o_move (v := (.int .i64 y)) e18_7 ?_)
              refine s_op (o_shl (c := y * 256) rfl rfl (by omega) (shl_lit (by omega) (by omega) rfl) ?_)
              refine s_op (o_move (v := (S s)) e18_0 ?_)
              refine s_op (o_move (v := (.int .i64 (i : Int))) rfl ?_)
              obtain ⟨c28, hx29⟩ : ∃ x_, s[((i : Int)).toNat]? = some x_ := get_some (by omega)
              have c28_lt := c28.toNat_lt
              refine s_op (o_sidx Tryd.underlying9 rfl rfl (by omega) hx29 ?_)
              refine s_op (o_conv Tryd.underlying5 Tryd.underlying3 rfl (w_u8 _) ?_)
              refine s_op (o_or (c := y * 256 + (c28.toNat : Int)) rfl rfl (or8 (by omega) (by omega) _) ?_)
              refine s_op (o_assign (v := (.int .i64 (y * 256 + (c28.toNat : Int)))) rfl ?_)
              refine s_nil ?_
              refine b_norm ?_
              refine t_norm (hK26 _ _ ?_)
              refine c_region ?_
              refine s_op (o_add (a := (i : Int)) (b := 1) e18_32 rfl (w64 (by omega) (by omega)) ?_)
              refine s_op (o_move (v := (.int .i64 ((i : Int) + 1))) rfl ?_)
              refine s_nil ?_
              refine t_norm ⟨m - (i + 1), _, rfl, ?_, ?_⟩
              · omega
              · exact ⟨(i + 1), (y * 256 + (c28.toNat : Int)), rfl, hH21, (by omega), (by rw [take_succ_of (by simpa using hx29), beVal_snoc, ← hy]), e18_0, e18_1, e18_4, e18_5, e18_6, rfl, e18_29, e18_31, rfl⟩
            · -- not: (i : Int) < (m : Int)
              refine wp_exit ?_
              refine t_exit (t_exit (x_in (?_)))
              refine t_norm (hK16 _ _ ?_)
              refine wp_seq_k fun K30 hK30 => ?_
              refine Rest.region mixed (by kernel_rfl) ?_
              have hH31 : Has E { w20 with drawn := w20.drawn + 1 } [R] := Has0.drew hH21 _
              refine Rest.phaseA (fun w_ => Has E w_ []) 0 5 5 rfl (by decide) (by kernel_rfl) ?_
              refine a_op 0 rfl (by kernel_rfl) (fun w_ h_ => o_move (v := (.int .i64 y)) e18_7 ⟨rfl, rfl⟩) ?_
              refine a_op 1 rfl (by kernel_rfl) (fun w_ h_ => o_move (v := (S s)) e18_0 ⟨rfl, rfl⟩) ?_
              refine a_op 2 rfl (by kernel_rfl) (fun w_ h_ => o_move (v := (.int .i64 (m : Int))) e18_1 ⟨rfl, rfl⟩) ?_
              refine a_op 3 rfl (by kernel_rfl) (fun w_ h_ => o_ssl_l Tryd.underlying9 rfl rfl (by omega) (by omega) ⟨rfl, rfl⟩) ?_
              refine a_op 4 rfl (by kernel_rfl) (fun w_ h_ => o_assign (v := (.int .i64 y)) rfl ⟨rfl, rfl⟩) ?_
              have hH32 : Has E { w20 with drawn := w20.drawn + 1 } [] := hH31.first 0 rfl
              refine a_done (by kernel_rfl) hH32 ?_
              refine r_op 5 rfl (by kernel_rfl) (o_assign (v := (S (s.drop ((m : Int)).toNat))) rfl ?_)
              refine r_op 6 rfl (by kernel_rfl) (o_assign (v := (.bool true)) rfl ?_)
              refine Rest.done (by kernel_rfl) ?_
              refine t_norm (hK30 _ _ ?_)
              refine wp_ret ?_
              refine c_ret3 Tryd.results49  (v := (.int .i64 y)) rfl (x := (S (s.drop ((m : Int)).toNat))) rfl (y := (.bool true)) rfl ?_
              have e : i = m := by omega
              rw [e] at hy
              exact ⟨by rw [takeS_yes (by omega) (by omega) (by omega) (.inr (first_byte (by simpa using hx12) (by omega))), hy]; rfl, hH31⟩
        · -- not: (m : Int) = 8
          refine s_off (b' := false) 24 rfl (congrArg Value.bool (decide_eq_false h10)) rfl ?_
          refine s_off (b' := false) 24 rfl (congrArg Value.bool (decide_eq_false h10)) rfl ?_
          refine s_off (b' := false) 24 rfl (congrArg Value.bool (decide_eq_false h10)) rfl ?_
          refine s_on 21 rfl (congrArg Value.bool (decide_eq_false h8)) (o_pick_f (u := (.bool false)) ((rfl : _ = _).trans (congrArg Value.bool (decide_eq_false h10))) rfl ?_)
          refine s_op (o_pick_f (u := (.bool false)) ((rfl : _ = _).trans (congrArg Value.bool (decide_eq_false h8))) rfl ?_)
          refine s_nil ?_
          refine t_norm (hK3 _ _ ?_)
          refine c_false rfl rfl ?_
          refine wp_skip ?_
          refine t_norm (hK2 _ _ ?_)
          refine wp_seq_k fun K33 hK33 => ?_
          refine c_region ?_
          refine s_op (o_assign (v := (.int .i64 0)) rfl ?_)
          refine s_nil ?_
          refine t_norm (hK33 _ _ ?_)
          refine wp_seq_k fun K34 hK34 => ?_
          refine wp_seq_k fun K35 hK35 => ?_
          refine c_region ?_
          refine s_op (o_move (v := (.int .i64 (m : Int))) rfl ?_)
          refine s_op (o_move (v := (.int .i64 0)) rfl ?_)
          refine s_nil ?_
          refine t_norm (hK35 _ _ ?_)
          refine wp_block ?_
          let I37 : Nat → (Nat → Value) → World → Prop := fun n__ r__ w__ => ∃ (i : Nat) (y : Int), n__ = m - i ∧ Has E w__ [R] ∧ (i ≤ m) ∧ (y = beVal (s.take i)) ∧ r__ 0 = (S s) ∧ r__ 1 = (.int .i64 (m : Int)) ∧ r__ 4 = (.int .i64 0) ∧ r__ 5 = (S ([] : List UInt8)) ∧ r__ 6 = (.bool false) ∧ r__ 7 = (.int .i64 y) ∧ r__ 29 = (.bool false) ∧ r__ 31 = (.int .i64 (m : Int)) ∧ r__ 32 = (.int .i64 (i : Int))
          refine c_loop I37 _ ⟨0, 0, rfl, hH, Nat.zero_le _, rfl, rfl, rfl, rfl, rfl, rfl, rfl, rfl, rfl, rfl⟩ ?_
          rintro n_ r40 w38 ⟨i, y, rfl, hH39, hi, hy, e36_0, e36_1, e36_4, e36_5, e36_6, e36_7, e36_29, e36_31, e36_32⟩
          have hb0 := beVal_nonneg (s.take i)
          have hb1 : i < m → beVal (s.take i) < 36028797018963968 := fun h => beVal_lt h (by omega) (by omega) (.inl (by omega))
          refine wp_seq_k fun K41 hK41 => ?_
          refine c_region ?_
          refine s_op (o_lss (a := (i : Int)) (b := (m : Int)) e36_32 e36_31 ?_)
          refine s_nil ?_
          refine t_norm (hK41 _ _ ?_)
          refine wp_seq_k fun K42 hK42 => ?_
          refine c_cond rfl (fun h43 => ?_) (fun h43 => ?_)
          · -- (i : Int) < (m : Int)
            refine wp_skip ?_
            refine t_norm (hK42 _ _ ?_)
            refine wp_seq_k fun K44 hK44 => ?_
            refine wp_block ?_
            refine wp_seq_k fun K45 hK45 => ?_
            refine c_region ?_
            refine s_op (o_move (v := (.int .i64 (i : Int))) e36_32 ?_)
            refine s_op (o_assign (v := (.int .i64 (i : Int))) rfl ?_)
            refine s_nil ?_
            refine t_norm (hK45 _ _ ?_)
            refine c_region ?_
            refine s_op (o_move (v := (.int .i64 y)) e36_7 ?_)
            refine s_op (o_shl (c := y * 256) rfl rfl (by omega) (shl_lit (by omega) (by omega) rfl) ?_)
            refine s_op (o_move (v := (S s)) e36_0 ?_)
            refine s_op (o_move (v := (.int .i64 (i : Int))) rfl ?_)
            obtain ⟨c46, hx47⟩ : ∃ x_, s[((i : Int)).toNat]? = some x_ := get_some (by omega)
            have c46_lt := c46.toNat_lt
            refine s_op (o_sidx Tryd.underlying9 rfl rfl (by omega) hx47 ?_)
            refine s_op (o_conv Tryd.underlying5 Tryd.underlying3 rfl (w_u8 _) ?_)
            refine s_op (o_or (c := y * 256 + (c46.toNat : Int)) rfl rfl (or8 (by omega) (by omega) _) ?_)
            refine s_op (o_assign (v := (.int .i64 (y * 256 + (c46.toNat : Int)))) rfl ?_)
            refine s_nil ?_
            refine b_norm ?_
            refine t_norm (hK44 _ _ ?_)
            refine c_region ?_
            refine s_op (o_add (a := (i : Int)) (b := 1) e36_32 rfl (w64 (by omega) (by omega)) ?_)
            refine s_op (o_move (v := (.int .i64 ((i : Int) + 1))) rfl ?_)
            refine s_nil ?_
            refine t_norm ⟨m - (i + 1), _, rfl, ?_, ?_⟩
            · omega
            · exact ⟨(i + 1), (y * 256 + (c46.toNat : Int)), rfl, hH39, (by omega), (by rw [take_succ_of (by simpa using hx47), beVal_snoc, ← hy]), e36_0, e36_1, e36_4, e36_5, e36_6, rfl, e36_29, e36_31, rfl⟩
          · -- not: (i : Int) < (m : Int)
            refine wp_exit ?_
            refine t_exit (t_exit (x_in (?_)))
            refine t_norm (hK34 _ _ ?_)
            refine wp_seq_k fun K48 hK48 => ?_
            refine Rest.region mixed (by kernel_rfl) ?_
            have hH49 : Has E { w38 with drawn := w38.drawn + 1 } [R] := Has0.drew hH39 _
            refine Rest.phaseA (fun w_ => Has E w_ []) 0 5 5 rfl (by decide) (by kernel_rfl) ?_
            refine a_op 0 rfl (by kernel_rfl) (fun w_ h_ => o_move (v := (.int .i64 y)) e36_7 ⟨rfl, rfl⟩) ?_
            refine a_op 1 rfl (by kernel_rfl) (fun w_ h_ => o_move (v := (S s)) e36_0 ⟨rfl, rfl⟩) ?_
            refine a_op 2 rfl (by kernel_rfl) (fun w_ h_ => o_move (v := (.int .i64 (m : Int))) e36_1 ⟨rfl, rfl⟩) ?_
            refine a_op 3 rfl (by kernel_rfl) (fun w_ h_ => o_ssl_l Tryd.underlying9 rfl rfl (by omega) (by omega) ⟨rfl, rfl⟩) ?_
            refine a_op 4 rfl (by kernel_rfl) (fun w_ h_ => o_assign (v := (.int .i64 y)) rfl ⟨rfl, rfl⟩) ?_
            have hH50 : Has E { w38 with drawn := w38.drawn + 1 } [] := hH49.first 0 rfl
            refine a_done (by kernel_rfl) hH50 ?_
            refine r_op 5 rfl (by kernel_rfl) (o_assign (v := (S (s.drop ((m : Int)).toNat))) rfl ?_)
            refine r_op 6 rfl (by kernel_rfl) (o_assign (v := (.bool true)) rfl ?_)
            refine Rest.done (by kernel_rfl) ?_
            refine t_norm (hK48 _ _ ?_)
            refine wp_ret ?_
            refine c_ret3 Tryd.results49  (v := (.int .i64 y)) rfl (x := (S (s.drop ((m : Int)).toNat))) rfl (y := (.bool true)) rfl ?_
            have e : i = m := by omega
            rw [e] at hy
            exact ⟨by rw [takeS_yes (by omega) (by omega) (by omega) (.inl (by omega)), hy]; rfl, hH49⟩
end Go.Q
namespace Go.Q
theorem two_pow8 (j : Nat) : ((2 : Int) ^ (8 * j)) = ((256 ^ j : Nat) : Int) := by
  induction j with
  | zero => rfl
  | succ j ih => rw [Nat.mul_succ, Int.pow_add, ih, Nat.pow_succ, Int.natCast_mul]; rfl
theorem by8_nat (m : Nat) (j : Nat) : (by8 ((m : Int) / 2 ^ (8 * j))).toNat = m / 256 ^ j % 256 := by
  unfold by8
  rw [UInt8.toNat_ofNat', two_pow8, ← Int.natCast_ediv]
  omega
theorem fold_be (m : Nat) : ∀ (j : Nat) (acc : Int), (beFrom (m : Int) j).foldl (fun n b => n * 256 + (b.toNat : Int)) acc = acc * ((256 ^ j : Nat) : Int) + ((m % 256 ^ j : Nat) : Int)
  | 0, acc => by simp [beFrom, Nat.mod_one]
  | j + 1, acc => by
    rw [show beFrom (m : Int) (j + 1) = by8 ((m : Int) / 2 ^ (8 * j)) :: beFrom (m : Int) j from rfl, List.foldl_cons, fold_be m j, by8_nat, Nat.pow_succ, Nat.mod_mul, Int.add_mul, Int.mul_assoc, Int.natCast_mul, Int.natCast_add, Int.natCast_mul, Int.mul_comm 256, Int.mul_comm ((m / 256 ^ j % 256 : Nat) : Int), show ((256 : Nat) : Int) = 256 from rfl]
    omega
theorem beVal_be (m j : Nat) (h : m < 256 ^ j) : beVal (beFrom (m : Int) j) = m := by
  rw [beVal, fold_be, Nat.mod_eq_of_lt h]; omega
/-- a number that fits is below the power -/
theorem fits_nat {n : Int} {k : Nat} (h : fitsS n k = true) (h1 : 1 ≤ k) (h8 : k ≤ 8) (hn : n ≤ 9223372036854775807) : ∃ m : Nat, n = m ∧ m < 256 ^ k ∧ m ≤ 9223372036854775807 := by
  simp only [fitsS, Bool.and_eq_true, Bool.or_eq_true, decide_eq_true_eq] at h
  obtain ⟨h0, h2⟩ := h
  refine ⟨n.toNat, by omega, ?_, by omega⟩
  rcases h2 with h2 | h2
  · obtain rfl : k = 8 := by omega
    omega
  · rw [show (min (8 * (k : Int)).toNat 64) = 8 * k from by omega, two_pow8, Int.fdiv_eq_ediv_of_nonneg _ (Int.natCast_nonneg _), show n = ((n.toNat : Nat) : Int) from by omega, ← Int.natCast_ediv] at h2
    have h3 : n.toNat / 256 ^ k = 0 := by omega
    exact (Nat.div_eq_zero_iff.1 h3).resolve_left (Nat.pos_iff_ne_zero.1 (Nat.pow_pos (by omega)))
theorem be_first {m : Nat} (h : m ≤ 9223372036854775807) : ∀ c, (beFrom (m : Int) 8)[0]? = some c → c.toNat ≤ 127 := by
  intro c hc
  rw [show beFrom (m : Int) 8 = by8 ((m : Int) / 2 ^ (8 * 7)) :: beFrom (m : Int) 7 from rfl] at hc
  have : c = by8 ((m : Int) / 2 ^ (8 * 7)) := by simpa using hc.symm
  subst this
  rw [by8_nat]
  omega
theorem put_one_fits {n : Int} {k : Nat} (h1 : 1 ≤ k) (h8 : k ≤ 8) (h : fitsS n k = true) : putS k [n] = beFrom n k := by
  rw [putS_yes h1 h8 (by simpa using h)]; simp
theorem put_one_no {n : Int} {k : Nat} (h1 : 1 ≤ k) (h8 : k ≤ 8) (h : putS k [n] = []) : fitsS n k = false := by
  cases hf : fitsS n k with
  | false => rfl
  | true =>
    rw [put_one_fits h1 h8 hf] at h
    have := congrArg List.length h
    rw [beFrom_length] at this
    simp at this; omega
theorem put_one_yes {n : Int} {k : Nat} (h1 : 1 ≤ k) (h8 : k ≤ 8) (h : putS k [n] ≠ []) : fitsS n k = true := by
  cases hf : fitsS n k with
  | true => rfl
  | false => exact absurd (putS_no (List.mem_singleton.2 rfl) hf) h
theorem back_law {n : Int} {k : Nat} {more : List UInt8} (h1 : 1 ≤ k) (h8 : k ≤ 8) (hn : n ≤ 9223372036854775807) (h : putS k [n] ≠ []) : takeS (putS k [n] ++ more) k = (n, more, true) := by
  have hf := put_one_yes h1 h8 h
  obtain ⟨m, rfl, hm, hm2⟩ := fits_nat hf h1 h8 hn
  rw [put_one_fits h1 h8 hf, takeS_yes h1 h8 (by rw [List.length_append, beFrom_length]; omega) ?_]
  · rw [List.take_left' (beFrom_length _ _), List.drop_left' (beFrom_length _ _), beVal_be m k hm]
  · rcases Nat.lt_or_ge k 8 with g | g
    · exact .inl (by omega)
    · obtain rfl : k = 8 := by omega
      refine .inr fun c hc => be_first hm2 c ?_
      rw [List.getElem?_append_left (by rw [beFrom_length]; omega)] at hc
      exact hc
theorem div_mod_pow (x j : Nat) : x / 256 ^ j % 256 = x % 256 ^ (j + 1) / 256 ^ j := by rw [Nat.pow_succ, Nat.mod_mul_right_div_self]
theorem be_mod (x k : Nat) : ∀ j, j ≤ k → beFrom (x : Int) j = beFrom ((x % 256 ^ k : Nat) : Int) j
  | 0, _ => rfl
  | j + 1, h => by
    show by8 ((x : Int) / 2 ^ (8 * j)) :: beFrom (x : Int) j = by8 (((x % 256 ^ k : Nat) : Int) / 2 ^ (8 * j)) :: beFrom ((x % 256 ^ k : Nat) : Int) j
    rw [be_mod x k j (by omega)]
    congr 1
    rw [← UInt8.toNat_inj, by8_nat, by8_nat, div_mod_pow, div_mod_pow, Nat.mod_mod_of_dvd _ (Nat.pow_dvd_pow 256 h)]
theorem be_less : ∀ (k a b : Nat), a < 256 ^ k → b < 256 ^ k → Op.bytesLess (beFrom (a : Int) k) (beFrom (b : Int) k) = decide (a < b)
  | 0, a, b, ha, hb => by simp at ha hb; subst ha hb; rfl
  | k + 1, a, b, ha, hb => by
    have hp : 0 < 256 ^ k := Nat.pow_pos (by omega)
    show (by8 ((a : Int) / 2 ^ (8 * k)) < by8 ((b : Int) / 2 ^ (8 * k)) || (by8 ((a : Int) / 2 ^ (8 * k)) == by8 ((b : Int) / 2 ^ (8 * k)) && Op.bytesLess (beFrom (a : Int) k) (beFrom (b : Int) k))) = _
    rw [be_mod a k k (Nat.le_refl _), be_mod b k k (Nat.le_refl _), be_less k _ _ (Nat.mod_lt _ hp) (Nat.mod_lt _ hp)]
    have qa : a / 256 ^ k < 256 := (Nat.div_lt_iff_lt_mul hp).2 (by rw [Nat.pow_succ] at ha; omega)
    have qb : b / 256 ^ k < 256 := (Nat.div_lt_iff_lt_mul hp).2 (by rw [Nat.pow_succ] at hb; omega)
    have e1 : (by8 ((a : Int) / 2 ^ (8 * k)) < by8 ((b : Int) / 2 ^ (8 * k))) ↔ a / 256 ^ k < b / 256 ^ k := by
      rw [UInt8.lt_iff_toNat_lt, by8_nat, by8_nat, Nat.mod_eq_of_lt qa, Nat.mod_eq_of_lt qb]
    have e2 : (by8 ((a : Int) / 2 ^ (8 * k)) = by8 ((b : Int) / 2 ^ (8 * k))) ↔ a / 256 ^ k = b / 256 ^ k := by
      rw [← UInt8.toNat_inj, by8_nat, by8_nat, Nat.mod_eq_of_lt qa, Nat.mod_eq_of_lt qb]
    have da := Nat.div_add_mod a (256 ^ k)
    have db := Nat.div_add_mod b (256 ^ k)
    rw [Bool.eq_iff_iff]
    simp only [Bool.or_eq_true, Bool.and_eq_true, decide_eq_true_eq, beq_iff_eq, e1, e2]
    rcases Nat.lt_trichotomy (a / 256 ^ k) (b / 256 ^ k) with g | g | g
    · exact ⟨fun _ => Nat.lt_of_div_lt_div g, fun _ => .inl g⟩
    · rw [← g] at db
      constructor
      · rintro (h | ⟨_, h⟩)
        · omega
        · omega
      · intro h; exact .inr ⟨g, by omega⟩
    · have := Nat.lt_of_div_lt_div g
      constructor
      · rintro (h | ⟨h, _⟩) <;> omega
      · intro h; omega
theorem be_inj (k a b : Nat) (ha : a < 256 ^ k) (hb : b < 256 ^ k) (h : beFrom (a : Int) k = beFrom (b : Int) k) : a = b := by
  have h1 := beVal_be a k ha
  rw [h, beVal_be b k hb] at h1
  omega
end Go.Q
namespace Go.Q
theorem put_one_len (k : Nat) (n : Int) : (putS k [n]).length ≤ 8 := by
  unfold putS
  split
  · rename_i h; simp [beFrom_length]; omega
  · simp
theorem put_two_no {k : Nat} {a b : Int} (h1 : 1 ≤ k) (h8 : k ≤ 8) (h : putS k [a] = [] ∨ putS k [b] = []) : putS k [a, b] = [] := by
  rcases h with h | h
  · exact putS_no (List.mem_cons_self ..) (put_one_no h1 h8 h)
  · exact putS_no (List.mem_cons_of_mem _ (List.mem_singleton.2 rfl)) (put_one_no h1 h8 h)
theorem put_two {k : Nat} {a b : Int} (h1 : 1 ≤ k) (h8 : k ≤ 8) (ha : putS k [a] ≠ []) (hb : putS k [b] ≠ []) : putS k [a, b] = putS k [a] ++ putS k [b] := by
  have fa := put_one_yes h1 h8 ha
  have fb := put_one_yes h1 h8 hb
  rw [put_one_fits h1 h8 fa, put_one_fits h1 h8 fb, putS_yes h1 h8 (by simp [fa, fb])]
  simp
theorem put_one_length {k : Nat} {a : Int} (h1 : 1 ≤ k) (h8 : k ≤ 8) (ha : putS k [a] ≠ []) : (putS k [a]).length = k := by
  rw [put_one_fits h1 h8 (put_one_yes h1 h8 ha), beFrom_length]
theorem rises_less {k : Nat} {a b : Int} (h1 : 1 ≤ k) (h8 : k ≤ 8) (ha : putS k [a] ≠ []) (hb : putS k [b] ≠ []) (ma : a ≤ 9223372036854775807) (mb : b ≤ 9223372036854775807) : Op.bytesLess (putS k [a]) (putS k [b]) = decide (a < b) := by
  have fa := put_one_yes h1 h8 ha
  have fb := put_one_yes h1 h8 hb
  rw [put_one_fits h1 h8 fa, put_one_fits h1 h8 fb]
  obtain ⟨x, rfl, hx, _⟩ := fits_nat fa h1 h8 ma
  obtain ⟨y, rfl, hy, _⟩ := fits_nat fb h1 h8 mb
  rw [be_less k x y hx hy]
  simp
theorem rises_same {k : Nat} {a b : Int} (h1 : 1 ≤ k) (h8 : k ≤ 8) (ha : putS k [a] ≠ []) (hb : putS k [b] ≠ []) (ma : a ≤ 9223372036854775807) (mb : b ≤ 9223372036854775807) : decide (putS k [a] = putS k [b]) = decide (a = b) := by
  have fa := put_one_yes h1 h8 ha
  have fb := put_one_yes h1 h8 hb
  rw [put_one_fits h1 h8 fa, put_one_fits h1 h8 fb]
  obtain ⟨x, rfl, hx, _⟩ := fits_nat fa h1 h8 ma
  obtain ⟨y, rfl, hy, _⟩ := fits_nat fb h1 h8 mb
  by_cases e : x = y
  · subst e; simp
  · rw [decide_eq_false (fun h => e (be_inj k x y hx hy h)), decide_eq_false (by omega)]
end Go.Q
namespace Go.Q
theorem be_zero (n : Nat) (i : Nat) (h : n < 256 ^ i) : ∀ j, beFrom (n : Int) (i + j) = List.replicate j (0 : UInt8) ++ beFrom (n : Int) i
  | 0 => rfl
  | j + 1 => by
    show by8 ((n : Int) / 2 ^ (8 * (i + j))) :: beFrom (n : Int) (i + j) = _
    rw [be_zero n i h j, List.replicate_succ]
    have : by8 ((n : Int) / 2 ^ (8 * (i + j))) = 0 := by
      rw [← UInt8.toNat_inj, by8_nat, Nat.div_eq_of_lt (Nat.lt_of_lt_of_le h (Nat.pow_le_pow_right (by omega) (by omega)))]; rfl
    rw [this]; rfl
theorem set_put {j : Nat} {l : List UInt8} {b : UInt8} (h : 0 < j) : (List.replicate j (0 : UInt8) ++ l).set (j - 1) b = List.replicate (j - 1) 0 ++ b :: l := by
  obtain ⟨i, rfl⟩ : ∃ i, j = i + 1 := ⟨j - 1, by omega⟩
  rw [Nat.add_sub_cancel, List.replicate_succ', List.append_assoc, List.set_append_right _ _ (by simp)]
  simp
theorem by8_mod (y : Int) : by8 (y % 256) = by8 y := by unfold by8; rw [Int.emod_emod_of_dvd _ (by decide)]
theorem fits_iff {n : Nat} {m : Nat} (h8 : m ≤ 8) (hn : (n : Int) ≤ 9223372036854775807) : fitsS (n : Int) m = decide (n < 256 ^ m) := by
  rw [Bool.eq_iff_iff]
  simp only [fitsS, Bool.and_eq_true, Bool.or_eq_true, decide_eq_true_eq]
  rw [show (min (8 * (m : Int)).toNat 64) = 8 * m from by omega, two_pow8, Int.fdiv_eq_ediv_of_nonneg _ (Int.natCast_nonneg _), ← Int.natCast_ediv]
  have hp : 0 < 256 ^ m := Nat.pow_pos (by omega)
  constructor
  · rintro ⟨_, h | h⟩
    · obtain rfl : m = 8 := by omega
      omega
    · exact (Nat.div_eq_zero_iff.1 (by omega : n / 256 ^ m = 0)).resolve_left (by omega)
  · intro h; exact ⟨by omega, .inr (by rw [Nat.div_eq_of_lt h]; rfl)⟩
end Go.Q
namespace Go.Q
theorem refput_set {lc : List UInt8} {n y i : Int} {m j : Nat} (h : lc = List.replicate j 0 ++ beFrom n (m - j)) (h0 : 0 < j) (hj : j ≤ m) (hi : i = (j : Int) - 1) (hy : 0 ≤ n → y = n / ((256 ^ (m - j) : Nat) : Int)) (hn : 0 ≤ n) :
    lc.set i.toNat (by8 (y % 256)) = List.replicate (j - 1) 0 ++ beFrom n (m - (j - 1)) := by
  rw [h, show i.toNat = j - 1 from by omega, set_put h0, by8_mod, hy hn, show m - (j - 1) = (m - j) + 1 from by omega]
  congr 1
  show _ = by8 (n / 2 ^ (8 * (m - j))) :: beFrom n (m - j)
  rw [two_pow8]
theorem refput_div {n y : Int} {m j : Nat} (hy : 0 ≤ n → y = n / ((256 ^ (m - j) : Nat) : Int)) (h0 : 0 < j) (hj : j ≤ m) : 0 ≤ n → y / 256 = n / ((256 ^ (m - (j - 1)) : Nat) : Int) := by
  intro hn
  rw [hy hn, show m - (j - 1) = (m - j) + 1 from by omega, Nat.pow_succ, Int.natCast_mul, Int.ediv_ediv_of_nonneg (Int.natCast_nonneg _)]; rfl
theorem refput_low {n y : Int} {m j : Nat} (hj : j ≤ m) (hy : 0 ≤ n → y = n / ((256 ^ (m - j) : Nat) : Int)) (hn : 0 ≤ n) (h : j = 0 ∨ y ≤ 0) (hy0 : y = 0) : n.toNat < 256 ^ (m - j) := by
  have := hy hn
  rw [hy0, show n = ((n.toNat : Nat) : Int) from by omega, ← Int.natCast_ediv] at this
  exact (Nat.div_eq_zero_iff.1 (by omega : n.toNat / 256 ^ (m - j) = 0)).resolve_left (Nat.pos_iff_ne_zero.1 (Nat.pow_pos (by omega)))
theorem refput_ok {n y : Int} {m j : Nat} (hm : 1 ≤ m ∧ m ≤ 8) (hn : -9223372036854775808 ≤ n ∧ n ≤ 9223372036854775807) (hj : j ≤ m) (hy : 0 ≤ n → y = n / ((256 ^ (m - j) : Nat) : Int)) (hneg : n < 0 → j = m ∧ y = n) (h : j = 0 ∨ y ≤ 0) : decide (y = 0) = fitsS n m := by
  rcases (by omega : n < 0 ∨ 0 ≤ n) with g | g
  · rw [decide_eq_false (by have := hneg g; omega)]
    simp only [fitsS]
    rw [decide_eq_false (by omega)]; rfl
  · have e : n = ((n.toNat : Nat) : Int) := by omega
    rw [e, fits_iff hm.2 (by omega)]
    have hyn : 0 ≤ y := by rw [hy g]; exact Int.ediv_nonneg g (Int.natCast_nonneg _)
    have hy' := hy g
    rw [e, ← Int.natCast_ediv] at hy'
    by_cases hy0 : y = 0
    · have := refput_low hj hy g h hy0
      rw [decide_eq_true hy0, decide_eq_true (Nat.lt_of_lt_of_le this (Nat.pow_le_pow_right (by omega) (by omega)))]
    · have hj0 : j = 0 := by omega
      subst hj0
      rw [decide_eq_false hy0, decide_eq_false]
      intro hl
      rw [Nat.sub_zero, Nat.div_eq_of_lt hl] at hy'
      exact hy0 hy'
theorem refput_be {n y : Int} {m j : Nat} {lc : List UInt8} (hm : 1 ≤ m ∧ m ≤ 8) (hn : -9223372036854775808 ≤ n ∧ n ≤ 9223372036854775807) (hj : j ≤ m) (hlc : lc = List.replicate j 0 ++ beFrom n (m - j)) (hy : 0 ≤ n → y = n / ((256 ^ (m - j) : Nat) : Int)) (hneg : n < 0 → j = m ∧ y = n) (h : j = 0 ∨ y ≤ 0) :
    fitsS n m = true → lc = beFrom n m := by
  intro hf
  rw [← refput_ok hm hn hj hy hneg h, decide_eq_true_eq] at hf
  rcases (by omega : n < 0 ∨ 0 ≤ n) with g | g
  · have := hneg g; omega
  · have hl := refput_low hj hy g h hf
    have := be_zero n.toNat (m - j) hl j
    rw [show ((n.toNat : Nat) : Int) = n from by omega, show m - j + j = m from by omega] at this
    rw [hlc, this]
end Go.Q
namespace Go.Q
theorem take_true {s : List UInt8} {m : Nat} (h : (takeS s m).2.2 = true) : 1 ≤ m ∧ m ≤ s.length ∧ (takeS s m).2.1 = s.drop m := by
  unfold takeS at h ⊢
  split at h
  · rename_i g; rw [if_pos g]; exact ⟨g.1, g.2.2.1, rfl⟩
  · cases h
theorem take_false {s : List UInt8} {m : Nat} (h : (takeS s m).2.2 = false) : (takeS s m).2.1 = s := by
  unfold takeS at h ⊢
  split at h
  · cases h
  · rename_i g; rw [if_neg g]
theorem put_none {m : Nat} {l : List Int} (h : ¬ (1 ≤ m ∧ m ≤ 8) ∨ ∃ x ∈ l, fitsS x m = false) : putS m l = [] := by
  rcases h with h | ⟨x, hx, h⟩
  · rw [putS, if_neg (fun g => h ⟨g.1, g.2.1⟩)]
  · exact putS_no hx h
theorem fits_nonneg {n : Int} {m : Nat} (h : fitsS n m = true) : 0 ≤ n := by
  simp only [fitsS, Bool.and_eq_true, decide_eq_true_eq] at h; exact h.1
end Go.Q
namespace Go.Q
/-- one bit falls out -/
def cb (r : BitVec 32) : BitVec 32 := if r.getLsbD 0 then (r >>> 1) ^^^ 0xedb88320#32 else r >>> 1
def cbs : Nat → BitVec 32 → BitVec 32
  | 0, r => r
  | n + 1, r => cbs n (cb r)
def b32 (b : UInt8) : BitVec 32 := BitVec.ofNat 32 b.toNat
/-- one byte -/
def cby (r : BitVec 32) (b : UInt8) : BitVec 32 := cbs 8 (r ^^^ b32 b)
def crcF (r : BitVec 32) (l : List UInt8) : BitVec 32 := l.foldl cby r
def crcS (l : List UInt8) : BitVec 32 := ~~~ (crcF (0xffffffff#32) l)
theorem cb_xor (a b : BitVec 32) : cb (a ^^^ b) = cb a ^^^ cb b := by
  unfold cb
  rw [BitVec.getLsbD_xor, BitVec.ushiftRight_xor_distrib]
  generalize a >>> 1 = x
  generalize b >>> 1 = y
  generalize (0xedb88320#32 : BitVec 32) = c
  have e1 : x ^^^ (y ^^^ c) = x ^^^ y ^^^ c := (BitVec.xor_assoc x y c).symm
  have e2 : x ^^^ c ^^^ y = x ^^^ y ^^^ c := by rw [BitVec.xor_assoc, BitVec.xor_comm c y, e1]
  have e3 : x ^^^ c ^^^ (y ^^^ c) = x ^^^ y := by rw [← BitVec.xor_assoc, e2, BitVec.xor_assoc, BitVec.xor_self, BitVec.xor_zero]
  cases a.getLsbD 0 <;> cases b.getLsbD 0 <;> simp [e1, e2, e3]
theorem cb_zero : cb 0#32 = 0#32 := by decide
theorem cb_even {a : BitVec 32} (h : a.getLsbD 0 = false) : cb a = a >>> 1 := by unfold cb; rw [h]; rfl
theorem cb_inj0 {a : BitVec 32} (h : cb a = 0#32) : a = 0#32 := by
  unfold cb at h
  split at h
  · have := congrArg (fun x : BitVec 32 => x.getLsbD 31) h
    simp at this
  · rename_i h0
    apply BitVec.eq_of_getLsbD_eq
    intro i hi
    cases i with
    | zero => simpa using h0
    | succ i =>
      have := congrArg (fun x : BitVec 32 => x.getLsbD i) h
      simp at this
      rw [Nat.add_comm] at this
      simpa using this
theorem cbs_xor : ∀ (n : Nat) (a b : BitVec 32), cbs n (a ^^^ b) = cbs n a ^^^ cbs n b
  | 0, _, _ => rfl
  | n + 1, a, b => by rw [cbs, cb_xor, cbs_xor n]; rfl
theorem cbs_inj0 : ∀ (n : Nat) {a : BitVec 32}, cbs n a = 0#32 → a = 0#32
  | 0, _, h => h
  | n + 1, _, h => cb_inj0 (cbs_inj0 n h)
theorem cbs_zero : ∀ n, cbs n 0#32 = 0#32
  | 0 => rfl
  | n + 1 => by rw [cbs, cb_zero, cbs_zero n]
theorem cbs_add (a b : Nat) : ∀ r, cbs (a + b) r = cbs b (cbs a r) := by
  induction a with
  | zero => intro r; rw [Nat.zero_add]; rfl
  | succ a ih => intro r; rw [Nat.succ_add]; exact ih _
/-- bits above n: they only fall down -/
theorem cbs_high : ∀ (n : Nat) (a : BitVec 32), (∀ i, i < n → a.getLsbD i = false) → cbs n a = a >>> n
  | 0, a, _ => by simp [cbs]
  | n + 1, a, h => by
    rw [cbs, cb_even (h 0 (by omega)), cbs_high n _ (fun i hi => by
      rw [BitVec.getLsbD_ushiftRight, Nat.add_comm]; exact h (i + 1) (by omega))]
    rw [← BitVec.shiftRight_add, Nat.add_comm]
def nib (i : Nat) : BitVec 32 := cbs 4 (BitVec.ofNat 32 i)
theorem split4 (r : BitVec 32) : r = (r &&& ~~~ 15#32) ^^^ (r &&& 15#32) := by
  apply BitVec.eq_of_getLsbD_eq
  intro i hi
  simp only [BitVec.getLsbD_xor, BitVec.getLsbD_and, BitVec.getLsbD_not]
  cases r.getLsbD i <;> simp [hi]
theorem cbs4 (r : BitVec 32) : cbs 4 r = (r >>> 4) ^^^ nib (r &&& 15#32).toNat := by
  have hl : ∀ i, i < 4 → (r &&& ~~~ 15#32).getLsbD i = false := fun i hi => by
    have : (~~~ 15#32).getLsbD i = false := by
      rcases i with _ | _ | _ | _ | i <;> first | decide | omega
    rw [BitVec.getLsbD_and, this, Bool.and_false]
  have e1 : (r &&& ~~~ 15#32) >>> 4 = r >>> 4 := by
    apply BitVec.eq_of_getLsbD_eq
    intro i hi
    rw [BitVec.getLsbD_ushiftRight, BitVec.getLsbD_ushiftRight, BitVec.getLsbD_and]
    by_cases hb : 4 + i < 32
    · have : ∀ j, j < 28 → (~~~ 15#32).getLsbD (4 + j) = true := by decide
      rw [this i (by omega), Bool.and_true]
    · rw [BitVec.getLsbD_of_ge r _ (by omega)]; rfl
  conv => lhs; rw [split4 r]
  rw [cbs_xor, cbs_high 4 _ hl, e1]
  unfold nib
  rw [BitVec.ofNat_toNat, BitVec.setWidth_eq]
/-- a byte, bit by bit: what is left of it is laid over the state -/
theorem step_bit (r x : BitVec 32) : cb (r ^^^ (x &&& 1#32)) ^^^ (x >>> 1) = cb (r ^^^ x) := by
  have e : x = (x &&& 1#32) ^^^ (x &&& ~~~ 1#32) := by
    apply BitVec.eq_of_getLsbD_eq
    intro i hi
    simp only [BitVec.getLsbD_xor, BitVec.getLsbD_and, BitVec.getLsbD_not]
    cases x.getLsbD i <;> simp [hi]
  have h0 : (x &&& ~~~ 1#32).getLsbD 0 = false := by
    rw [BitVec.getLsbD_and]; simp
  have h1 : (x &&& ~~~ 1#32) >>> 1 = x >>> 1 := by
    apply BitVec.eq_of_getLsbD_eq
    intro i hi
    rw [BitVec.getLsbD_ushiftRight, BitVec.getLsbD_ushiftRight, BitVec.getLsbD_and]
    by_cases hb : 1 + i < 32
    · have : ∀ j, j < 31 → (~~~ 1#32).getLsbD (1 + j) = true := by decide
      rw [this i (by omega), Bool.and_true]
    · rw [BitVec.getLsbD_of_ge x _ (by omega)]; rfl
  conv => rhs; rw [e, ← BitVec.xor_assoc, cb_xor, cb_even h0, h1]
theorem crcF_append (r : BitVec 32) (a b : List UInt8) : crcF r (a ++ b) = crcF (crcF r a) b := List.foldl_append
end Go.Q
namespace Go.Q
def uV (x : BitVec 32) : Value := .int .u32 (x.toNat : Int)
theorem ofInt_toNat (x : BitVec 32) : BitVec.ofInt 32 (x.toNat : Int) = x := by
  rw [BitVec.ofInt_natCast, BitVec.ofNat_toNat, BitVec.setWidth_eq]
theorem wrap_u32 {n : Int} (h0 : 0 ≤ n) (h1 : n < 4294967296) : IntKind.wrap .u32 n = n := by
  simp only [IntKind.wrap, IntKind.bits, IntKind.signed]
  simp
  exact Int.emod_eq_of_lt h0 (by simpa using h1)
theorem u32_lt (x : BitVec 32) : (x.toNat : Int) < 4294967296 := by have := x.isLt; omega
theorem xor32 (x y : BitVec 32) : IntKind.wrap .u32 ((BitVec.ofInt 32 (x.toNat : Int) ^^^ BitVec.ofInt 32 (y.toNat : Int)).toNat : Int) = ((x ^^^ y).toNat : Int) := by
  rw [ofInt_toNat, ofInt_toNat, wrap_u32 (by omega) (u32_lt _)]
theorem and32 (x y : BitVec 32) : IntKind.wrap .u32 ((BitVec.ofInt 32 (x.toNat : Int) &&& BitVec.ofInt 32 (y.toNat : Int)).toNat : Int) = ((x &&& y).toNat : Int) := by
  rw [ofInt_toNat, ofInt_toNat, wrap_u32 (by omega) (u32_lt _)]
theorem shr32 (x : BitVec 32) (n : Nat) (h : n ≤ 32) : Int.fdiv (x.toNat : Int) (2 ^ (min ((n : Int)).toNat (IntKind.bits .u32))) = ((x >>> n).toNat : Int) := by
  rw [show min ((n : Int)).toNat (IntKind.bits .u32) = n from by simp [IntKind.bits]; omega, BitVec.toNat_ushiftRight, Nat.shiftRight_eq_div_pow,
    show ((2 : Int) ^ n) = ((2 ^ n : Nat) : Int) from by rw [Int.natCast_pow]; rfl, Int.fdiv_eq_ediv_of_nonneg _ (Int.natCast_nonneg _)]
  exact (Int.natCast_ediv _ _).symm
theorem shr8 (c : UInt8) (n : Nat) (h : n ≤ 8) : Int.fdiv (c.toNat : Int) (2 ^ (min ((n : Int)).toNat (IntKind.bits .u8))) = ((c.toNat >>> n : Nat) : Int) := by
  rw [show min ((n : Int)).toNat (IntKind.bits .u8) = n from by simp [IntKind.bits]; omega, Nat.shiftRight_eq_div_pow,
    show ((2 : Int) ^ n) = ((2 ^ n : Nat) : Int) from by rw [Int.natCast_pow]; rfl, Int.fdiv_eq_ediv_of_nonneg _ (Int.natCast_nonneg _)]
  exact (Int.natCast_ediv _ _).symm
theorem quo32 (x : BitVec 32) (m k : Nat) (hm : m = 2 ^ k) : IntKind.wrap .u32 ((x.toNat : Int).tdiv (m : Int)) = ((x >>> k).toNat : Int) := by
  subst hm
  rw [Int.tdiv_eq_ediv_of_nonneg (by omega), BitVec.toNat_ushiftRight, Nat.shiftRight_eq_div_pow, ← Int.natCast_ediv]
  exact wrap_u32 (Int.natCast_nonneg _) (Int.ofNat_lt.2 (Nat.lt_of_le_of_lt (Nat.div_le_self x.toNat (2 ^ k)) x.isLt))
theorem not32 (x : BitVec 32) : 4294967295 - (x.toNat : Int) = ((~~~ x).toNat : Int) := by
  rw [BitVec.toNat_not]; have := x.isLt; omega
theorem sub32 (x : BitVec 32) : IntKind.wrap .u32 (4294967295 - (x.toNat : Int)) = ((~~~ x).toNat : Int) := by
  rw [not32]; exact wrap_u32 (by omega) (u32_lt _)
theorem b32_nat (b : UInt8) : (b.toNat : Int) = ((b32 b).toNat : Int) := by
  unfold b32
  rw [BitVec.toNat_ofNat, Nat.mod_eq_of_lt (by have := b.toNat_lt; omega)]
theorem conv_b32 (b : UInt8) : IntKind.wrap .u32 (b.toNat : Int) = ((b32 b).toNat : Int) := by
  rw [b32_nat]; exact wrap_u32 (by omega) (u32_lt _)
/-- the low byte -/
def lo8 (x : BitVec 32) : UInt8 := UInt8.ofNat x.toNat
theorem conv_lo8 (x : BitVec 32) : IntKind.wrap .u8 (x.toNat : Int) = ((lo8 x).toNat : Int) := by
  simp only [IntKind.wrap, IntKind.bits, IntKind.signed]
  simp [lo8]
theorem and15_lt (x : BitVec 32) : (x &&& 15#32).toNat < 16 := by
  rw [BitVec.toNat_and]; exact Nat.lt_of_le_of_lt Nat.and_le_right (by decide)
/-- the table -/
def nibV : List Value := [.int .u32 0, .int .u32 498536548, .int .u32 997073096, .int .u32 651767980, .int .u32 1994146192, .int .u32 1802195444, .int .u32 1303535960, .int .u32 1342533948, .int .u32 3988292384, .int .u32 4027552580, .int .u32 3604390888, .int .u32 3412177804, .int .u32 2607071920, .int .u32 2262029012, .int .u32 2685067896, .int .u32 3183342108]
def nibL : List Int := [0, 498536548, 997073096, 651767980, 1994146192, 1802195444, 1303535960, 1342533948, 3988292384, 4027552580, 3604390888, 3412177804, 2607071920, 2262029012, 2685067896, 3183342108]
theorem nibV_L {i : Nat} {v : Value} (h : nibV[i]? = some v) : ∃ z, nibL[i]? = some z ∧ v = .int .u32 z := by
  have e : nibV = nibL.map (fun z => Value.int .u32 z) := rfl
  rw [e, List.getElem?_map, Option.map_eq_some_iff] at h
  obtain ⟨z, h1, h2⟩ := h
  exact ⟨z, h1, h2.symm⟩
theorem nibV_at : ∀ i, i < 16 → nibV[i]? = some (uV (nib i)) := by
  have : ∀ i, i < 16 → (nib i).toNat = [0, 498536548, 997073096, 651767980, 1994146192, 1802195444, 1303535960, 1342533948, 3988292384, 4027552580, 3604390888, 3412177804, 2607071920, 2262029012, 2685067896, 3183342108].getD i 0 := by decide
  intro i hi
  unfold uV
  rw [this i hi]
  rcases i with _ | _ | _ | _ | _ | _ | _ | _ | _ | _ | _ | _ | _ | _ | _ | _ | i <;> first | rfl | omega
theorem nib_at {L : List Hp} {g : Nat} (h : CellsAt L g 0 nibV) (x : BitVec 32) : CellsAt L g (0 + (x &&& 15#32).toNat) [uV (nib (x &&& 15#32).toNat)] :=
  h.sub fun j v hv => by
    cases j with
    | zero => rw [Nat.add_zero, nibV_at _ (and15_lt x)]; simpa using hv
    | succ j => simp at hv
theorem cby_nib (r : BitVec 32) (c : UInt8) : cby r c = (((r ^^^ b32 c) >>> 4 ^^^ nib ((r ^^^ b32 c) &&& 15#32).toNat) >>> 4) ^^^ nib (((r ^^^ b32 c) >>> 4 ^^^ nib ((r ^^^ b32 c) &&& 15#32).toNat) &&& 15#32).toNat := by
  rw [← cbs4, ← cbs4, ← cbs_add]; rfl
theorem cbs_succ' (n : Nat) (r : BitVec 32) : cbs (n + 1) r = cb (cbs n r) := cbs_add n 1 r
theorem bit_and1 (x : BitVec 32) : (x &&& 1#32).toNat = x.toNat % 2 := by
  rw [BitVec.toNat_and]; exact Nat.and_one_is_mod _
theorem bit0 (x : BitVec 32) : x.getLsbD 0 = decide (x.toNat % 2 = 1) := by
  rw [BitVec.getLsbD, Nat.testBit_zero]
theorem bit0_out (r x : BitVec 32) : (r ^^^ (x &&& 1#32)).getLsbD 0 = decide (r.toNat % 2 ≠ x.toNat % 2) := by
  rw [BitVec.getLsbD_xor, bit0, bit0, bit_and1]
  have h1 : r.toNat % 2 = 0 ∨ r.toNat % 2 = 1 := by omega
  have h2 : x.toNat % 2 = 0 ∨ x.toNat % 2 = 1 := by omega
  rcases h1 with h1 | h1 <;> rcases h2 with h2 | h2 <;> simp [h1, h2]
theorem shr_and1 (r x : BitVec 32) : (r ^^^ (x &&& 1#32)) >>> 1 = r >>> 1 := by
  rw [BitVec.ushiftRight_xor_distrib]
  have : (x &&& 1#32) >>> 1 = 0#32 := by
    apply BitVec.eq_of_toNat_eq
    rw [BitVec.toNat_ushiftRight, bit_and1, Nat.shiftRight_eq_div_pow]
    show x.toNat % 2 / 2 ^ 1 = 0
    omega
  rw [this, BitVec.xor_zero]
theorem b32_shr (c : UInt8) (j : Nat) : (b32 c >>> j).toNat = c.toNat >>> j := by
  rw [BitVec.toNat_ushiftRight]; congr 1; have := b32_nat c; omega
theorem bits_yes {r r0 : BitVec 32} {c : UInt8} {j : Nat} (h : r ^^^ (b32 c >>> j) = cbs j (r0 ^^^ b32 c)) (hb : (r.toNat : Int) % 2 ≠ ((c.toNat >>> j : Nat) : Int) % 2) (_h8 : j < 8) :
    ((r >>> 1) ^^^ 3988292384#32) ^^^ (b32 c >>> (j + 1)) = cbs (j + 1) (r0 ^^^ b32 c) := by
  have e : cb (r ^^^ ((b32 c >>> j) &&& 1#32)) = (r >>> 1) ^^^ 3988292384#32 := by
    unfold cb
    rw [if_pos (by rw [bit0_out, b32_shr]; exact decide_eq_true (by omega)), shr_and1]
  rw [← e, BitVec.shiftRight_add, step_bit, h, cbs_succ']
theorem bits_no {r r0 : BitVec 32} {c : UInt8} {j : Nat} (h : r ^^^ (b32 c >>> j) = cbs j (r0 ^^^ b32 c)) (hb : ¬ (r.toNat : Int) % 2 ≠ ((c.toNat >>> j : Nat) : Int) % 2) (_h8 : j < 8) :
    (r >>> 1) ^^^ (b32 c >>> (j + 1)) = cbs (j + 1) (r0 ^^^ b32 c) := by
  have e : cb (r ^^^ ((b32 c >>> j) &&& 1#32)) = r >>> 1 := by
    unfold cb
    rw [if_neg (by rw [bit0_out, b32_shr]; simp; omega), shr_and1]
  rw [← e, BitVec.shiftRight_add, step_bit, h, cbs_succ']
theorem bits_done {r r0 : BitVec 32} {c : UInt8} {j : Nat} (h : r ^^^ (b32 c >>> j) = cbs j (r0 ^^^ b32 c)) (h8 : j = 8) : r = cby r0 c := by
  subst h8
  have e : b32 c >>> 8 = 0#32 := by
    apply BitVec.eq_of_toNat_eq
    rw [b32_shr, Nat.shiftRight_eq_div_pow]
    have := c.toNat_lt
    show c.toNat / 256 = 0
    omega
  rw [e, BitVec.xor_zero] at h
  exact h
theorem crcF_snoc (r : BitVec 32) (l : List UInt8) (c : UInt8) : crcF r (l ++ [c]) = cby (crcF r l) c := by rw [crcF_append]; rfl
/-- a sum, laid -/
def laidS (x : BitVec 32) : List UInt8 := [lo8 x, lo8 (x >>> 8), lo8 (x >>> 16), lo8 (x >>> 24)]
theorem laidS_len (x : BitVec 32) : (laidS x).length = 4 := rfl
theorem by8_lo (x : BitVec 32) : by8 ((x.toNat : Int) % 256) = lo8 x := by
  unfold by8 lo8
  apply UInt8.toNat_inj.1
  rw [UInt8.toNat_ofNat', UInt8.toNat_ofNat']
  omega
theorem laidS_ref (x : BitVec 32) : [by8 ((x.toNat : Int) % 256), by8 (((x >>> 8).toNat : Int) % 256), by8 (((x >>> 16).toNat : Int) % 256), lo8 (x >>> 24)] = laidS x := by
  rw [by8_lo, by8_lo, by8_lo]; rfl
def sealS (t : List UInt8) : List UInt8 := t ++ laidS (crcS t)
def openS (t : List UInt8) : List UInt8 × Bool :=
  if 4 ≤ t.length ∧ laidS (crcS (t.take ((t.length : Int) - 4).toNat)) = t.drop ((t.length : Int) - 4).toNat then (t.take ((t.length : Int) - 4).toNat, true) else ([], false)
theorem openS_yes {t : List UInt8} (h : 4 ≤ t.length) (h2 : laidS (crcS ([t.take ((t.length : Int) - 4).toNat].flatten)) = t.drop ((t.length : Int) - 4).toNat) : openS t = (t.take ((t.length : Int) - 4).toNat, true) := by
  rw [List.flatten_cons, List.flatten_nil, List.append_nil] at h2
  unfold openS; rw [if_pos ⟨h, h2⟩]
theorem openS_no {t : List UInt8} (h : t.length < 4 ∨ laidS (crcS ([t.take ((t.length : Int) - 4).toNat].flatten)) ≠ t.drop ((t.length : Int) - 4).toNat) : openS t = ([], false) := by
  rw [List.flatten_cons, List.flatten_nil, List.append_nil] at h
  unfold openS; rw [if_neg (fun g => h.elim (fun h => by omega) (fun h => h g.2))]
theorem openS_yes2 {t : List UInt8} (h : 4 ≤ t.length) (h2 : laidS (crcS (t.take ((t.length : Int) - 4).toNat)) = t.drop ((t.length : Int) - 4).toNat) : openS t = (t.take ((t.length : Int) - 4).toNat, true) := openS_yes h (by simpa using h2)
theorem openS_no2 {t : List UInt8} (h : t.length < 4 ∨ laidS (crcS (t.take ((t.length : Int) - 4).toNat)) ≠ t.drop ((t.length : Int) - 4).toNat) : openS t = ([], false) := openS_no (by simpa using h)
theorem all_no {l : List (List UInt8)} {x : List UInt8} (hx : x ∈ l) (h : (openS x).2 = false) : l.all (fun x => (openS x).2) = false := by
  rw [List.all_eq_false]; exact ⟨x, hx, by rw [h]; decide⟩
theorem flat_le {l : List (List UInt8)} {x : List UInt8} (hx : x ∈ l) : x.length ≤ l.flatten.length := by
  induction l with
  | nil => cases hx
  | cons a t ih =>
    rw [List.flatten_cons, List.length_append]
    rcases List.mem_cons.1 hx with e | h
    · rw [e]; omega
    · have := ih h; omega
theorem lawjoin_end {l : List (List UInt8)} {t : List UInt8} {k : Nat} (ht : t = (l.take k).flatten) (he : k = l.length) (hk : k ≤ 20) (h : t.length ≤ 2000) : l.length ≤ 20 ∧ t = l.flatten ∧ l.flatten.length ≤ 2000 := by
  subst he
  rw [List.take_length] at ht
  exact ⟨hk, ht, by rw [← ht]; exact h⟩
theorem emod_b (a b : Int) (h : 0 < b) : 0 ≤ a % b ∧ a % b < b := ⟨Int.emod_nonneg _ (by omega), Int.emod_lt_of_pos _ h⟩
theorem flat1 (t : List UInt8) : [t].flatten = t := by simp
theorem take_drop_part {α : Type} (t : List α) {a b : Nat} (h : a ≤ b) : t.take a ++ (t.take b).drop a = t.take b := by
  have e : t.take a = (t.take b).take a := by rw [List.take_take, Nat.min_eq_left h]
  rw [e, List.take_append_drop]
theorem openS_seal (t : List UInt8) : openS (sealS t) = (t, true) := by
  have hl : (sealS t).length = t.length + 4 := by rw [sealS, List.length_append, laidS_len]
  have e : (((sealS t).length : Int) - 4).toNat = t.length := by omega
  have e1 : (sealS t).take t.length = t := by rw [sealS, List.take_left]
  have e2 : (sealS t).drop t.length = laidS (crcS t) := by rw [sealS, List.drop_left]
  unfold openS
  rw [e, e1, e2, if_pos ⟨by omega, rfl⟩]
theorem seal_good (x : List UInt8) : [sealS x].all (fun x => (openS x).2) = true := by
  simp [openS_seal]
section ops
variable {P : Program} {ρ : Operand → Value} {E w : World} {ss : List (List Hp)} {K : Value → World → Prop} {dst : Option Tmp} {T : TypeId} {pos : String} {after : Array Edge} {g : Option (Nat × Bool)}
theorem o_compl {t u : TypeId} {x : Operand} {a : BitVec 32} (ht : P.underlying t = some (.int .u32)) (hx : ρ x = .int .u32 (a.toNat : Int)) (h : K (.int .u32 ((~~~ a).toNat : Int)) w) : OK P ⟨dst, .unOp .xor t x, u, pos, after, g⟩ ρ w K := by
  refine OK.val (run_v (v := .int .u32 ((~~~ a).toNat : Int)) ?_) h
  rw [hx]
  simp only [Op.unary, Op.intBits]
  rw [if_neg (show ¬ (IntKind.signed .u32 = true) by decide)]
  simp only [Sem.run_pure]
  have e : IntKind.max .u32 = ((4294967295#32).toNat : Int) := by decide
  rw [e]
  have := xor32 (4294967295#32) a
  rw [show (4294967295#32 ^^^ a) = ~~~ a from by
    apply BitVec.eq_of_getLsbD_eq
    intro i hi
    have : ∀ j, j < 32 → (4294967295#32).getLsbD j = true := by decide
    rw [BitVec.getLsbD_xor, this i hi, BitVec.getLsbD_not, decide_eq_true hi]; cases a.getLsbD i <;> rfl] at this
  exact congrArg (fun n => Result.ok (Value.int .u32 n) w) this
theorem o_idxArr {x y : Operand} {t e : TypeId} {n b off i by_ : Nat} {k : IntKind} {z : Value} (ht : P.underlying t = some (.array n e)) (hi : TI P e z 1 by_) (hx : ρ x = .pointer (some ⟨b, off, none⟩)) (hy : ρ y = .int k (i : Int)) (h : i < n)
    (hK : K (.pointer (some ⟨b, off + i, none⟩)) w) : OK P ⟨dst, .indexAddr t x y, T, pos, after, g⟩ ρ w K := by
  refine OK.val (run_v (v := .pointer (some ⟨b, off + i, none⟩)) ?_) hK
  rw [hx, hy]
  simp [Instr.indexAt, asIntOf, run_underlying ht, h, hi.size, add_lit, Instr.sureAddr]
end ops
end Go.Q
namespace Go.Q
open Go.Proofs
set_option linter.unusedVariables false
set_option maxRecDepth 100000
attribute [local irreducible] wpList OK Code.wp
set_option maxHeartbeats 4000000 in
theorem of2_c {E w : World} {R : List Hp} (hH : Has E w [R]) (hg : CellsAt R 0 0 nibV) {v : Value} {l : List (List UInt8)} (hv : Sl R 1 v l.length (l.map sV)) (hlb : ∀ x ∈ l, x.length ≤ 9223372036854775807) :
    Calls Tryd.prog 112 #[v] w fun e w' => e = .returned (.int .u32 ((crcS l.flatten).toNat : Int)) ∧ Has E w' [R] := by
  have hn := hv.le
  refine c_enter (args := [v]) Tryd.func112 rfl Tryd.ntmps112 (by simp) ?_
  refine wp_seq_k fun K1 hK1 => ?_
  refine c_region ?_
  refine s_op (o_assign (v := (.int .u32 0)) rfl ?_)
  refine s_nil ?_
  refine t_norm (hK1 _ _ ?_)
  refine wp_seq_k fun K2 hK2 => ?_
  refine c_region ?_
  refine s_op (o_assign (v := (.int .u32 4294967295)) rfl ?_)
  refine s_nil ?_
  refine t_norm (hK2 _ _ ?_)
  refine wp_seq_k fun K3 hK3 => ?_
  refine wp_seq_k fun K4 hK4 => ?_
  refine c_region ?_
  refine s_op (o_move (v := v) rfl ?_)
  refine s_op (o_lenS Tryd.underlying32 rfl hv ?_)
  refine s_op (o_move (v := (.int .i64 0)) rfl ?_)
  refine s_nil ?_
  refine t_norm (hK4 _ _ ?_)
  refine wp_block ?_
  let I6 : Nat → (Nat → Value) → World → Prop := fun n__ r__ w__ => ∃ (k : Nat) (r : BitVec 32), n__ = l.length - k ∧ Has E w__ [R] ∧ (k ≤ l.length) ∧ (r = crcF (4294967295#32) (l.take k).flatten) ∧ r__ 0 = v ∧ r__ 2 = (.int .u32 0) ∧ r__ 3 = (.int .u32 (r.toNat : Int)) ∧ r__ 7 = v ∧ r__ 8 = (.int .i64 ((l.length : Nat) : Int)) ∧ r__ 9 = (.int .i64 (k : Int))
  refine c_loop I6 _ ⟨0, (4294967295#32), rfl, hH, Nat.zero_le _, rfl, rfl, rfl, rfl, rfl, rfl, rfl⟩ ?_
  rintro n_ r9 w7 ⟨k, r, rfl, hH8, hk, hr, e5_0, e5_2, e5_3, e5_7, e5_8, e5_9⟩
  refine wp_seq_k fun K10 hK10 => ?_
  refine c_region ?_
  refine s_op (o_lss (a := (k : Int)) (b := ((l.length : Nat) : Int)) e5_9 e5_8 ?_)
  refine s_nil ?_
  refine t_norm (hK10 _ _ ?_)
  refine wp_seq_k fun K11 hK11 => ?_
  refine c_cond rfl (fun h12 => ?_) (fun h12 => ?_)
  · -- (k : Int) < ((l.length : Nat) : Int)
    refine wp_skip ?_
    refine t_norm (hK11 _ _ ?_)
    refine wp_seq_k fun K13 hK13 => ?_
    refine wp_block ?_
    refine wp_seq_k fun K14 hK14 => ?_
    refine c_region ?_
    obtain ⟨x18, hx19⟩ : ∃ x_, l[((k : Int)).toNat]? = some x_ := get_some (by omega)
    refine s_op (o_index1 Tryd.underlying32 ti9 e5_7 hv e5_9 (by omega) hx19 fun b15 o16 hc17 => ?_)
    refine s_op (o_load1 (v := (S x18)) Tryd.underlying9 rfl rfl hH8 (seg_sub 0 rfl) hc17 ?_)
    refine s_op (o_assign (v := (S x18)) rfl ?_)
    refine s_nil ?_
    refine t_norm (hK14 _ _ ?_)
    refine wp_seq_k fun K20 hK20 => ?_
    refine c_region ?_
    refine s_op (o_move (v := (S x18)) rfl ?_)
    refine s_op (o_slen Tryd.underlying9 rfl ?_)
    refine s_op (o_move (v := (.int .i64 0)) rfl ?_)
    refine s_nil ?_
    refine t_norm (hK20 _ _ ?_)
    refine wp_block ?_
    have hxl := hlb x18 (List.mem_of_getElem? hx19)
    let I22 : Nat → (Nat → Value) → World → Prop := fun n__ r__ w__ => ∃ (j : Nat) (r2 : BitVec 32), n__ = x18.length - j ∧ Has E w__ [R] ∧ (j ≤ x18.length) ∧ (r2 = crcF r (x18.take j)) ∧ r__ 0 = v ∧ r__ 2 = (.int .u32 0) ∧ r__ 3 = (.int .u32 (r2.toNat : Int)) ∧ r__ 5 = (S x18) ∧ r__ 7 = v ∧ r__ 8 = (.int .i64 ((l.length : Nat) : Int)) ∧ r__ 9 = (.int .i64 (k : Int)) ∧ r__ 10 = (.bool (decide ((k : Int) < ((l.length : Nat) : Int)))) ∧ r__ 14 = (.int .i64 (x18.length : Int)) ∧ r__ 15 = (.int .i64 (j : Int))
    refine c_loop I22 _ ⟨0, r, rfl, hH8, Nat.zero_le _, rfl, e5_0, e5_2, e5_3, rfl, e5_7, e5_8, e5_9, rfl, rfl, rfl⟩ ?_
    rintro n_ r25 w23 ⟨j, r2, rfl, hH24, hj, hr2, e21_0, e21_2, e21_3, e21_5, e21_7, e21_8, e21_9, e21_10, e21_14, e21_15⟩
    refine wp_seq_k fun K26 hK26 => ?_
    refine c_region ?_
    refine s_op (o_lss (a := (j : Int)) (b := (x18.length : Int)) e21_15 e21_14 ?_)
    refine s_nil ?_
    refine t_norm (hK26 _ _ ?_)
    refine wp_seq_k fun K27 hK27 => ?_
    refine c_cond rfl (fun h28 => ?_) (fun h28 => ?_)
    · -- (j : Int) < (x18.length : Int)
      refine wp_skip ?_
      refine t_norm (hK27 _ _ ?_)
      refine wp_seq_k fun K29 hK29 => ?_
      refine wp_block ?_
      refine wp_seq_k fun K30 hK30 => ?_
      refine c_region ?_
      refine s_op (o_move (v := (.int .i64 (j : Int))) e21_15 ?_)
      refine s_op (o_assign (v := (.int .i64 (j : Int))) rfl ?_)
      refine s_nil ?_
      refine t_norm (hK30 _ _ ?_)
      refine wp_seq_k fun K31 hK31 => ?_
      refine c_region ?_
      refine s_op (o_move (v := (.int .u32 (r2.toNat : Int))) e21_3 ?_)
      refine s_op (o_move (v := (S x18)) e21_5 ?_)
      refine s_op (o_move (v := (.int .i64 (j : Int))) rfl ?_)
      obtain ⟨c32, hx33⟩ : ∃ x_, x18[((j : Int)).toNat]? = some x_ := get_some (by omega)
      have c32_lt := c32.toNat_lt
      refine s_op (o_sidx Tryd.underlying9 rfl rfl (by omega) hx33 ?_)
      refine s_op (o_conv (c := ((b32 c32).toNat : Int)) Tryd.underlying5 Tryd.underlying128 rfl (conv_b32 _) ?_)
      refine s_op (o_xor (a := ((r2).toNat : Int)) (b := (((b32 c32)).toNat : Int)) (c := ((r2 ^^^ (b32 c32)).toNat : Int)) rfl rfl (xor32 r2 (b32 c32)) ?_)
      refine s_op (o_assign (v := (.int .u32 ((r2 ^^^ (b32 c32)).toNat : Int))) rfl ?_)
      refine s_nil ?_
      refine t_norm (hK31 _ _ ?_)
      refine wp_seq_k fun K34 hK34 => ?_
      refine c_region ?_
      refine s_op (o_move (v := (.int .u32 ((r2 ^^^ (b32 c32)).toNat : Int))) rfl ?_)
      refine s_op (o_shr (a := (((r2 ^^^ (b32 c32))).toNat : Int)) (b := ((4 : Nat) : Int)) (c := (((r2 ^^^ (b32 c32)) >>> 4).toNat : Int)) rfl rfl (by omega) (shr32 (r2 ^^^ (b32 c32)) 4 (by omega)) ?_)
      refine s_op (o_move (v := (.int .u32 ((r2 ^^^ (b32 c32)).toNat : Int))) rfl ?_)
      refine s_op (o_and (a := (((r2 ^^^ (b32 c32))).toNat : Int)) (b := ((15#32).toNat : Int)) (c := (((r2 ^^^ (b32 c32)) &&& 15#32).toNat : Int)) rfl rfl (and32 (r2 ^^^ (b32 c32)) (15#32)) ?_)
      refine s_op (o_idxArr (i := ((r2 ^^^ (b32 c32)) &&& 15#32).toNat) Tryd.underlying174 ti128 rfl rfl (and15_lt _) ?_)
      refine s_op (o_load1 (v := (.int .u32 ((nib ((r2 ^^^ (b32 c32)) &&& 15#32).toNat).toNat : Int))) Tryd.underlying128 rfl rfl hH24 (seg_sub 0 rfl) (nib_at hg (r2 ^^^ (b32 c32))) ?_)
      refine s_op (o_xor (a := ((((r2 ^^^ (b32 c32)) >>> 4)).toNat : Int)) (b := (((nib ((r2 ^^^ (b32 c32)) &&& 15#32).toNat)).toNat : Int)) (c := ((((r2 ^^^ (b32 c32)) >>> 4) ^^^ (nib ((r2 ^^^ (b32 c32)) &&& 15#32).toNat)).toNat : Int)) rfl rfl (xor32 ((r2 ^^^ (b32 c32)) >>> 4) (nib ((r2 ^^^ (b32 c32)) &&& 15#32).toNat)) ?_)
      refine s_op (o_assign (v := (.int .u32 ((((r2 ^^^ (b32 c32)) >>> 4) ^^^ (nib ((r2 ^^^ (b32 c32)) &&& 15#32).toNat)).toNat : Int))) rfl ?_)
      refine s_nil ?_
      refine t_norm (hK34 _ _ ?_)
      refine c_region ?_
      refine s_op (o_move (v := (.int .u32 ((((r2 ^^^ (b32 c32)) >>> 4) ^^^ (nib ((r2 ^^^ (b32 c32)) &&& 15#32).toNat)).toNat : Int))) rfl ?_)
      refine s_op (o_shr (a := (((((r2 ^^^ (b32 c32)) >>> 4) ^^^ (nib ((r2 ^^^ (b32 c32)) &&& 15#32).toNat))).toNat : Int)) (b := ((4 : Nat) : Int)) (c := (((((r2 ^^^ (b32 c32)) >>> 4) ^^^ (nib ((r2 ^^^ (b32 c32)) &&& 15#32).toNat)) >>> 4).toNat : Int)) rfl rfl (by omega) (shr32 (((r2 ^^^ (b32 c32)) >>> 4) ^^^ (nib ((r2 ^^^ (b32 c32)) &&& 15#32).toNat)) 4 (by omega)) ?_)
      refine s_op (o_move (v := (.int .u32 ((((r2 ^^^ (b32 c32)) >>> 4) ^^^ (nib ((r2 ^^^ (b32 c32)) &&& 15#32).toNat)).toNat : Int))) rfl ?_)
      refine s_op (o_and (a := (((((r2 ^^^ (b32 c32)) >>> 4) ^^^ (nib ((r2 ^^^ (b32 c32)) &&& 15#32).toNat))).toNat : Int)) (b := ((15#32).toNat : Int)) (c := (((((r2 ^^^ (b32 c32)) >>> 4) ^^^ (nib ((r2 ^^^ (b32 c32)) &&& 15#32).toNat)) &&& 15#32).toNat : Int)) rfl rfl (and32 (((r2 ^^^ (b32 c32)) >>> 4) ^^^ (nib ((r2 ^^^ (b32 c32)) &&& 15#32).toNat)) (15#32)) ?_)
      refine s_op (o_idxArr (i := ((((r2 ^^^ (b32 c32)) >>> 4) ^^^ (nib ((r2 ^^^ (b32 c32)) &&& 15#32).toNat)) &&& 15#32).toNat) Tryd.underlying174 ti128 rfl rfl (and15_lt _) ?_)
      refine s_op (o_load1 (v := (.int .u32 ((nib ((((r2 ^^^ (b32 c32)) >>> 4) ^^^ (nib ((r2 ^^^ (b32 c32)) &&& 15#32).toNat)) &&& 15#32).toNat).toNat : Int))) Tryd.underlying128 rfl rfl hH24 (seg_sub 0 rfl) (nib_at hg (((r2 ^^^ (b32 c32)) >>> 4) ^^^ (nib ((r2 ^^^ (b32 c32)) &&& 15#32).toNat))) ?_)
      refine s_op (o_xor (a := ((((((r2 ^^^ (b32 c32)) >>> 4) ^^^ (nib ((r2 ^^^ (b32 c32)) &&& 15#32).toNat)) >>> 4)).toNat : Int)) (b := (((nib ((((r2 ^^^ (b32 c32)) >>> 4) ^^^ (nib ((r2 ^^^ (b32 c32)) &&& 15#32).toNat)) &&& 15#32).toNat)).toNat : Int)) (c := ((((((r2 ^^^ (b32 c32)) >>> 4) ^^^ (nib ((r2 ^^^ (b32 c32)) &&& 15#32).toNat)) >>> 4) ^^^ (nib ((((r2 ^^^ (b32 c32)) >>> 4) ^^^ (nib ((r2 ^^^ (b32 c32)) &&& 15#32).toNat)) &&& 15#32).toNat)).toNat : Int)) rfl rfl (xor32 ((((r2 ^^^ (b32 c32)) >>> 4) ^^^ (nib ((r2 ^^^ (b32 c32)) &&& 15#32).toNat)) >>> 4) (nib ((((r2 ^^^ (b32 c32)) >>> 4) ^^^ (nib ((r2 ^^^ (b32 c32)) &&& 15#32).toNat)) &&& 15#32).toNat)) ?_)
      refine s_op (o_assign (v := (.int .u32 ((((((r2 ^^^ (b32 c32)) >>> 4) ^^^ (nib ((r2 ^^^ (b32 c32)) &&& 15#32).toNat)) >>> 4) ^^^ (nib ((((r2 ^^^ (b32 c32)) >>> 4) ^^^ (nib ((r2 ^^^ (b32 c32)) &&& 15#32).toNat)) &&& 15#32).toNat)).toNat : Int))) rfl ?_)
      refine s_nil ?_
      refine b_norm ?_
      refine t_norm (hK29 _ _ ?_)
      refine c_region ?_
      refine s_op (o_add (a := (j : Int)) (b := 1) e21_15 rfl (w64 (by omega) (by omega)) ?_)
      refine s_op (o_move (v := (.int .i64 ((j : Int) + 1))) rfl ?_)
      refine s_nil ?_
      refine t_norm ⟨x18.length - (j + 1), _, rfl, ?_, ?_⟩
      · omega
      · exact ⟨(j + 1), (((((r2 ^^^ (b32 c32)) >>> 4) ^^^ (nib ((r2 ^^^ (b32 c32)) &&& 15#32).toNat)) >>> 4) ^^^ (nib ((((r2 ^^^ (b32 c32)) >>> 4) ^^^ (nib ((r2 ^^^ (b32 c32)) &&& 15#32).toNat)) &&& 15#32).toNat)), rfl, hH24, (by omega), (by rw [take_succ_of (show x18[j]? = some _ from hx33), crcF_snoc, ← hr2, cby_nib]), e21_0, e21_2, rfl, e21_5, e21_7, e21_8, e21_9, e21_10, e21_14, rfl⟩
    · -- not: (j : Int) < (x18.length : Int)
      refine wp_exit ?_
      refine t_exit (t_exit (x_in (?_)))
      refine b_norm ?_
      refine t_norm (hK13 _ _ ?_)
      refine c_region ?_
      refine s_op (o_add (a := (k : Int)) (b := 1) e21_9 rfl (w64 (by omega) (by omega)) ?_)
      refine s_op (o_move (v := (.int .i64 ((k : Int) + 1))) rfl ?_)
      refine s_nil ?_
      refine t_norm ⟨l.length - (k + 1), _, rfl, ?_, ?_⟩
      · omega
      · exact ⟨(k + 1), r2, rfl, hH24, (by omega), (by rw [take_succ_of (show l[k]? = some _ from hx19), List.flatten_append, crcF_append, ← hr, hr2, show j = x18.length from by omega, List.take_length]; simp), e21_0, e21_2, e21_3, e21_7, e21_8, rfl⟩
  · -- not: (k : Int) < ((l.length : Nat) : Int)
    refine wp_exit ?_
    refine t_exit (t_exit (x_in (?_)))
    refine t_norm (hK3 _ _ ?_)
    refine wp_seq_k fun K35 hK35 => ?_
    refine c_region ?_
    refine s_op (o_move (v := (.int .u32 (r.toNat : Int))) e5_3 ?_)
    refine s_op (o_compl (a := r) Tryd.underlying128 rfl ?_)
    refine s_op (o_assign (v := (.int .u32 ((~~~ r).toNat : Int))) rfl ?_)
    refine s_nil ?_
    refine t_norm (hK35 _ _ ?_)
    refine wp_ret ?_
    refine c_ret1 Tryd.results112  (v := (.int .u32 ((~~~ r).toNat : Int))) rfl ?_
    have e : k = l.length := by omega
    rw [e, List.take_length] at hr
    subst hr
    exact ⟨rfl, hH8⟩
set_option maxHeartbeats 4000000 in
theorem refsum_c {E w : World} {R : List Hp} (hH : Has E w [R]) (t : List UInt8) (hl : t.length ≤ 9223372036854775807) :
    Calls Tryd.prog 85 #[(S t)] w fun e w' => e = .returned (.int .u32 ((crcS t).toNat : Int)) ∧ Has E w' [R] := by
  refine c_enter (args := [(S t)]) Tryd.func85 rfl Tryd.ntmps85 (by simp) ?_
  refine wp_seq_k fun K1 hK1 => ?_
  refine c_region ?_
  refine s_op (o_assign (v := (.int .u32 0)) rfl ?_)
  refine s_nil ?_
  refine t_norm (hK1 _ _ ?_)
  refine wp_seq_k fun K2 hK2 => ?_
  refine c_region ?_
  refine s_op (o_assign (v := (.int .u32 4294967295)) rfl ?_)
  refine s_nil ?_
  refine t_norm (hK2 _ _ ?_)
  refine wp_seq_k fun K3 hK3 => ?_
  refine wp_seq_k fun K4 hK4 => ?_
  refine c_region ?_
  refine s_op (o_assign (v := (.int .i64 0)) rfl ?_)
  refine s_nil ?_
  refine t_norm (hK4 _ _ ?_)
  refine wp_block ?_
  let I6 : Nat → (Nat → Value) → World → Prop := fun n__ r__ w__ => ∃ (k : Nat) (r : BitVec 32), n__ = t.length - k ∧ Has E w__ [R] ∧ (k ≤ t.length) ∧ (r = crcF (4294967295#32) (t.take k)) ∧ r__ 0 = (S t) ∧ r__ 2 = (.int .u32 0) ∧ r__ 3 = (.int .u32 (r.toNat : Int)) ∧ r__ 4 = (.int .i64 (k : Int))
  refine c_loop I6 _ ⟨0, (4294967295#32), rfl, hH, Nat.zero_le _, rfl, rfl, rfl, rfl, rfl⟩ ?_
  rintro n_ r9 w7 ⟨k, r, rfl, hH8, hk, hr, e5_0, e5_2, e5_3, e5_4⟩
  refine wp_seq_k fun K10 hK10 => ?_
  refine wp_seq_k fun K11 hK11 => ?_
  refine c_region ?_
  refine s_op (o_move (v := (.int .i64 (k : Int))) e5_4 ?_)
  refine s_op (o_move (v := (S t)) e5_0 ?_)
  refine s_op (o_slen Tryd.underlying9 rfl ?_)
  refine s_op (o_lss (a := (k : Int)) (b := (t.length : Int)) rfl rfl ?_)
  refine s_nil ?_
  refine t_norm (hK11 _ _ ?_)
  refine c_cond rfl (fun h12 => ?_) (fun h12 => ?_)
  · -- (k : Int) < (t.length : Int)
    refine wp_skip ?_
    refine t_norm (hK10 _ _ ?_)
    refine wp_seq_k fun K13 hK13 => ?_
    refine wp_block ?_
    refine wp_seq_k fun K14 hK14 => ?_
    refine c_region ?_
    refine s_op (o_assign (v := (.int .i64 0)) rfl ?_)
    refine s_nil ?_
    refine t_norm (hK14 _ _ ?_)
    refine wp_block ?_
    obtain ⟨ch, hch⟩ : ∃ x_, t[((k : Int)).toNat]? = some x_ := get_some (by omega)
    have hch_lt := ch.toNat_lt
    let I16 : Nat → (Nat → Value) → World → Prop := fun n__ r__ w__ => ∃ (j : Nat) (r2 : BitVec 32), n__ = 8 - j ∧ Has E w__ [R] ∧ (j ≤ 8) ∧ (r2 ^^^ (b32 ch >>> j) = cbs j (r ^^^ b32 ch)) ∧ r__ 0 = (S t) ∧ r__ 2 = (.int .u32 0) ∧ r__ 3 = (.int .u32 (r2.toNat : Int)) ∧ r__ 4 = (.int .i64 (k : Int)) ∧ r__ 5 = (.int .i64 (j : Int)) ∧ r__ 10 = (.bool (decide ((k : Int) < (t.length : Int))))
    refine c_loop I16 _ ⟨0, r, rfl, hH8, (by omega), (by simp [cbs]), e5_0, e5_2, e5_3, e5_4, rfl, rfl⟩ ?_
    rintro n_ r19 w17 ⟨j, r2, rfl, hH18, hj, hr2, e15_0, e15_2, e15_3, e15_4, e15_5, e15_10⟩
    refine wp_seq_k fun K20 hK20 => ?_
    refine wp_seq_k fun K21 hK21 => ?_
    refine c_region ?_
    refine s_op (o_move (v := (.int .i64 (j : Int))) e15_5 ?_)
    refine s_op (o_lss (a := (j : Int)) (b := 8) rfl rfl ?_)
    refine s_nil ?_
    refine t_norm (hK21 _ _ ?_)
    refine c_cond rfl (fun h22 => ?_) (fun h22 => ?_)
    · -- (j : Int) < 8
      refine wp_skip ?_
      refine t_norm (hK20 _ _ ?_)
      refine wp_seq_k fun K23 hK23 => ?_
      refine wp_block ?_
      refine wp_seq_k fun K24 hK24 => ?_
      refine c_region ?_
      refine s_op (o_move (v := (.int .u32 (r2.toNat : Int))) e15_3 ?_)
      refine s_op (o_rem (a := (r2.toNat : Int)) (b := 2) (c := (r2.toNat : Int) % 2) rfl rfl (by omega) ((Int.tmod_eq_emod_of_nonneg (by first | exact Int.natCast_nonneg _ | omega))) ?_)
      refine s_op (o_move (v := (S t)) e15_0 ?_)
      refine s_op (o_move (v := (.int .i64 (k : Int))) e15_4 ?_)
      refine s_op (o_sidx Tryd.underlying9 rfl rfl (by omega) hch ?_)
      refine s_op (o_move (v := (.int .i64 (j : Int))) e15_5 ?_)
      refine s_op (o_shr (a := (ch.toNat : Int)) (b := ((j : Nat) : Int)) (c := ((ch.toNat >>> j : Nat) : Int)) rfl rfl (by omega) (shr8 ch j (by omega)) ?_)
      refine s_op (o_rem (a := ((ch.toNat >>> j : Nat) : Int)) (b := 2) (c := ((ch.toNat >>> j : Nat) : Int) % 2) rfl rfl (by omega) ((Int.tmod_eq_emod_of_nonneg (by first | exact Int.natCast_nonneg _ | omega))) ?_)
      refine s_op (o_conv (c := (((ch.toNat >>> j : Nat) : Int) % 2)) Tryd.underlying5 Tryd.underlying128 rfl (wrap_u32 (by omega) (by omega)) ?_)
      refine s_op (o_neq (a := (r2.toNat : Int) % 2) (b := ((ch.toNat >>> j : Nat) : Int) % 2) rfl rfl ?_)
      refine s_op (o_assign (v := (.bool (decide ((r2.toNat : Int) % 2 ≠ ((ch.toNat >>> j : Nat) : Int) % 2)))) rfl ?_)
      refine s_nil ?_
      refine t_norm (hK24 _ _ ?_)
      refine wp_seq_k fun K25 hK25 => ?_
      refine c_region ?_
      refine s_op (o_move (v := (.int .u32 (r2.toNat : Int))) e15_3 ?_)
      refine s_op (o_quo (a := ((r2).toNat : Int)) (b := ((2 : Nat) : Int)) (c := ((r2 >>> 1).toNat : Int)) rfl rfl (by decide) (quo32 r2 2 1 (by decide)) ?_)
      refine s_op (o_assign (v := (.int .u32 ((r2 >>> 1).toNat : Int))) rfl ?_)
      refine s_nil ?_
      refine t_norm (hK25 _ _ ?_)
      refine wp_seq_k fun K26 hK26 => ?_
      refine c_region ?_
      refine s_op (o_move (v := (.bool (decide ((r2.toNat : Int) % 2 ≠ ((ch.toNat >>> j : Nat) : Int) % 2)))) rfl ?_)
      refine s_nil ?_
      refine t_norm (hK26 _ _ ?_)
      refine c_cond rfl (fun h27 => ?_) (fun h27 => ?_)
      · -- (r2.toNat : Int) % 2 ≠ ((ch.toNat >>> j : Nat) : Int) % 2
        refine c_region ?_
        refine s_op (o_move (v := (.int .u32 ((r2 >>> 1).toNat : Int))) rfl ?_)
        refine s_op (o_xor (a := (((r2 >>> 1)).toNat : Int)) (b := ((3988292384#32).toNat : Int)) (c := (((r2 >>> 1) ^^^ 3988292384#32).toNat : Int)) rfl rfl (xor32 (r2 >>> 1) (3988292384#32)) ?_)
        refine s_op (o_assign (v := (.int .u32 (((r2 >>> 1) ^^^ 3988292384#32).toNat : Int))) rfl ?_)
        refine s_nil ?_
        refine b_norm ?_
        refine t_norm (hK23 _ _ ?_)
        refine c_region ?_
        refine s_op (o_move (v := (.int .i64 (j : Int))) e15_5 ?_)
        refine s_op (o_add (a := (j : Int)) (b := 1) rfl rfl (w64 (by omega) (by omega)) ?_)
        refine s_op (o_assign (v := (.int .i64 ((j : Int) + 1))) rfl ?_)
        refine s_nil ?_
        refine t_norm ⟨8 - (j + 1), _, rfl, ?_, ?_⟩
        · omega
        · exact ⟨(j + 1), ((r2 >>> 1) ^^^ 3988292384#32), rfl, hH18, (by omega), (bits_yes hr2 (by assumption) (by omega)), e15_0, e15_2, rfl, e15_4, rfl, e15_10⟩
      · -- not: (r2.toNat : Int) % 2 ≠ ((ch.toNat >>> j : Nat) : Int) % 2
        refine wp_skip ?_
        refine b_norm ?_
        refine t_norm (hK23 _ _ ?_)
        refine c_region ?_
        refine s_op (o_move (v := (.int .i64 (j : Int))) e15_5 ?_)
        refine s_op (o_add (a := (j : Int)) (b := 1) rfl rfl (w64 (by omega) (by omega)) ?_)
        refine s_op (o_assign (v := (.int .i64 ((j : Int) + 1))) rfl ?_)
        refine s_nil ?_
        refine t_norm ⟨8 - (j + 1), _, rfl, ?_, ?_⟩
        · omega
        · exact ⟨(j + 1), (r2 >>> 1), rfl, hH18, (by omega), (bits_no hr2 (by assumption) (by omega)), e15_0, e15_2, rfl, e15_4, rfl, e15_10⟩
    · -- not: (j : Int) < 8
      refine wp_exit ?_
      refine t_exit (t_exit (x_in (?_)))
      refine b_norm ?_
      refine t_norm (hK13 _ _ ?_)
      refine c_region ?_
      refine s_op (o_move (v := (.int .i64 (k : Int))) e15_4 ?_)
      refine s_op (o_add (a := (k : Int)) (b := 1) rfl rfl (w64 (by omega) (by omega)) ?_)
      refine s_op (o_assign (v := (.int .i64 ((k : Int) + 1))) rfl ?_)
      refine s_nil ?_
      refine t_norm ⟨t.length - (k + 1), _, rfl, ?_, ?_⟩
      · omega
      · exact ⟨(k + 1), r2, rfl, hH18, (by omega), (by rw [take_succ_of (show t[k]? = some _ from hch), crcF_snoc, ← hr]; exact bits_done hr2 (by omega)), e15_0, e15_2, e15_3, rfl⟩
  · -- not: (k : Int) < (t.length : Int)
    refine wp_exit ?_
    refine t_exit (t_exit (x_in (?_)))
    refine t_norm (hK3 _ _ ?_)
    refine wp_seq_k fun K28 hK28 => ?_
    refine c_region ?_
    refine s_op (o_move (v := (.int .u32 (r.toNat : Int))) e5_3 ?_)
    refine s_op (o_sub (c := ((~~~ r).toNat : Int)) rfl rfl (sub32 r) ?_)
    refine s_op (o_assign (v := (.int .u32 ((~~~ r).toNat : Int))) rfl ?_)
    refine s_nil ?_
    refine t_norm (hK28 _ _ ?_)
    refine wp_ret ?_
    refine c_ret1 Tryd.results85  (v := (.int .u32 ((~~~ r).toNat : Int))) rfl ?_
    have e : k = t.length := by omega
    rw [e, List.take_length] at hr
    subst hr
    exact ⟨rfl, hH8⟩
end Go.Q
namespace Go.Q
theorem Has.below {w w' : World} (H : Has w w' [[Hp.of w]]) : RowKit.Below w.heap.size w w' := by
  have hs : ∀ b o, w.heap[b]? = some o → w'.heap[b]? = some o := Has0.sub H (Hp.of w) (by simp)
  have hb : ∀ k, k < w.heap.size → w'.heap[k]? = w.heap[k]? := fun k hk => by
    rw [hs k w.heap[k] (Array.getElem?_eq_getElem hk), Array.getElem?_eq_getElem hk]
  refine ⟨H.os, H.tape, H.output, ?_, hb⟩
  rcases Nat.eq_zero_or_pos w.heap.size with h | h
  · omega
  · have h1 := hb (w.heap.size - 1) (by omega)
    rw [Array.getElem?_eq_getElem (show w.heap.size - 1 < w.heap.size by omega)] at h1
    have h2 := (Array.getElem?_eq_some_iff.1 h1).1
    omega
/-- cells that are read one by one, as a row -/
theorem cells_row {w : World} {x : Addr} {vs : List Value} (h0 : 0 < vs.length) (h : ∀ i v, vs[i]? = some v → w.cell? (x.add i) = some v) : ∃ b off, x = ⟨b, off, none⟩ ∧ CellsAt [Hp.of w] b off vs := by
  obtain ⟨b, off, spot⟩ := x
  have hc := h 0 vs[0] (List.getElem?_eq_getElem h0)
  simp only [Addr.add, if_true, World.cell?] at hc
  cases hb : w.heap[b]? with
  | none => rw [hb] at hc; cases hc
  | some o =>
    cases o with
    | cells c T f =>
      rw [hb] at hc
      simp only at hc
      cases spot with
      | some s => simp at hc
      | none =>
        refine ⟨b, off, rfl, Hp.of w, List.mem_singleton.2 rfl, c, T, f, hb, fun j v hv => ?_⟩
        have := h j v hv
        rw [add_lit] at this
        simpa [World.cell?, hb] using this
    | _ => rw [hb] at hc; simp at hc
theorem ints_row {w : World} {a : Option Addr} {len cap : Nat} {zs : List Int}
    (h : (a = none ∧ len = 0 ∧ cap = 0 ∧ zs = []) ∨ ∃ x, a = some x ∧ len ≤ cap ∧ cap ≤ maxLen ∧ zs.length = cap ∧ (∀ i, i < zs.length → w.cell? (x.add i) = some (.int .i64 (zs.getD i 0))) ∧ ∀ n ∈ zs, (Lit.int .i64 n).wf = true) :
    ∃ l : List Int, l.length = len ∧ Ints [Hp.of w] (.slice a len cap) l ∧ ∀ n ∈ l, -9223372036854775808 ≤ n ∧ n ≤ 9223372036854775807 := by
  rcases h with ⟨rfl, rfl, rfl, rfl⟩ | ⟨x, rfl, h1, h2, h3, h4, h5⟩
  · exact ⟨[], rfl, sl_nil 1, fun n hn => by cases hn⟩
  · have hl : (zs.take len).length = len := by rw [List.length_take]; omega
    refine ⟨zs.take len, hl, ?_, fun n hn => ?_⟩
    · unfold Ints
      rw [hl]
      refine ⟨some x, cap, rfl, h1, by simpa [maxLen] using h2, by simp; omega, fun h0 => ?_⟩
      obtain ⟨b, off, rfl, hc⟩ := cells_row (w := w) (x := x) (vs := (zs.take len).map iV) (by simp; omega) (fun i v hv => by
        rw [List.getElem?_map, Option.map_eq_some_iff] at hv
        obtain ⟨z, hz, rfl⟩ := hv
        rw [List.getElem?_take] at hz
        split at hz
        · rw [h4 i (by omega), List.getD_eq_getElem?_getD, hz]; rfl
        · cases hz)
      exact ⟨b, off, rfl, hc⟩
    · have := h5 n (List.mem_of_mem_take hn)
      simp only [Lit.wf, IntKind.min, IntKind.max, IntKind.signed, IntKind.bits, Bool.and_eq_true, decide_eq_true_eq, if_true] at this
      omega
end Go.Q
namespace Go.Q
theorem wf_i64 {x : Int} (h : (Lit.int .i64 x).wf = true) : -9223372036854775808 ≤ x ∧ x ≤ 9223372036854775807 := by
  simp only [Lit.wf, IntKind.min, IntKind.max, IntKind.signed, IntKind.bits, Bool.and_eq_true, decide_eq_true_eq, if_true] at h
  omega
theorem wf_u8 {x : Int} (h : (Lit.int .u8 x).wf = true) : 0 ≤ x ∧ x ≤ 255 := by
  simp [Lit.wf, IntKind.min, IntKind.max, IntKind.signed, IntKind.bits] at h
  omega
end Go.Q
namespace Go.Q
open Go.Proofs Go.Shelf
def jl_ren : Go.Shelf.Ren := ⟨fun | 156 => 68 | 165 => 91 | 166 => 52 | 169 => 56 | 240 => 86 | 241 => 116 | 276 => 111 | 277 => 138 | n => n, fun | 31 => 32 | 9 => 9 | 3 => 3 | 4 => 4 | 0 => 0 | 20 => 20 | 72 => 90 | 76 => 93 | 70 => 88 | 37 => 55 | 75 => 92 | 127 => 131 | 164 => 150 | 5 => 5 | 80 => 97 | n => n, fun | n => n⟩
theorem jl : Go.Proofs.Lays.n156 Tryd.prog jl_ren := {
  mixed := by kernel_rfl
  f156 := Tryd.func68.trans (congrArg some (by kernel_rfl))
  f165 := Tryd.func91.trans (congrArg some (by kernel_rfl))
  f166 := Tryd.func52.trans (congrArg some (by kernel_rfl))
  f169 := Tryd.func56.trans (congrArg some (by kernel_rfl))
  f240 := Tryd.func86.trans (congrArg some (by kernel_rfl))
  f241 := Tryd.func116.trans (congrArg some (by kernel_rfl))
  f276 := Tryd.func111.trans (congrArg some (by kernel_rfl))
  f277 := Tryd.func138.trans (congrArg some (by kernel_rfl))
  t0 := Tryd.underlying0
  a0 := Tryd.isAgg0
  z0 := Tryd.sizeOf0
  v0 := Tryd.zeroValue0
  t3 := Tryd.underlying3
  a3 := Tryd.isAgg3
  z3 := Tryd.sizeOf3
  v3 := Tryd.zeroValue3
  t4 := Tryd.underlying4
  a4 := Tryd.isAgg4
  z4 := Tryd.sizeOf4
  v4 := Tryd.zeroValue4
  t9 := Tryd.underlying9
  a9 := Tryd.isAgg9
  z9 := Tryd.sizeOf9
  v9 := Tryd.zeroValue9
  t20 := Tryd.underlying20
  a20 := Tryd.isAgg20
  z20 := Tryd.sizeOf20
  v20 := Tryd.zeroValue20
  t31 := Tryd.underlying32
  a31 := Tryd.isAgg32
  z31 := Tryd.sizeOf32
  v31 := Tryd.zeroValue32
  t37 := Tryd.underlying55
  a37 := Tryd.isAgg55
  z37 := Tryd.sizeOf55
  v37 := Tryd.zeroValue55
  t70 := Tryd.underlying88
  a70 := Tryd.isAgg88
  z70 := Tryd.sizeOf88
  v70 := Tryd.zeroValue88
  t72 := Tryd.underlying90
  a72 := Tryd.isAgg90
  z72 := Tryd.sizeOf90
  v72 := Tryd.zeroValue90
  t75 := Tryd.underlying92
  a75 := Tryd.isAgg92
  z75 := Tryd.sizeOf92
  v75 := Tryd.zeroValue92
  t76 := Tryd.underlying93
  a76 := Tryd.isAgg93
  z76 := Tryd.sizeOf93
  v76 := Tryd.zeroValue93
  t127 := Tryd.underlying131
  a127 := Tryd.isAgg131
  z127 := Tryd.sizeOf131
  v127 := Tryd.zeroValue131
  t164 := Tryd.underlying150
  a164 := Tryd.isAgg150
  z164 := Tryd.sizeOf150
  v164 := Tryd.zeroValue150 }
def rpl_ren : Go.Shelf.Ren := ⟨fun | 105 => 57 | 212 => 89 | 99 => 90 | 165 => 91 | 166 => 52 | 170 => 58 | 169 => 56 | 263 => 113 | 264 => 114 | 206 => 115 | 240 => 86 | 241 => 116 | 276 => 111 | 277 => 138 | n => n, fun | 9 => 9 | 3 => 3 | 4 => 4 | 20 => 20 | 0 => 0 | 46 => 130 | 109 => 132 | 5 => 5 | 72 => 90 | 76 => 93 | 51 => 128 | 146 => 153 | 53 => 155 | 148 => 156 | 70 => 88 | 37 => 55 | 75 => 92 | 127 => 131 | 164 => 150 | 80 => 97 | n => n, fun | n => n⟩
theorem rpl : Go.Proofs.Lays.n105 Tryd.prog rpl_ren := {
  mixed := by kernel_rfl
  f99 := Tryd.func90.trans (congrArg some (by kernel_rfl))
  f105 := Tryd.func57.trans (congrArg some (by kernel_rfl))
  f165 := Tryd.func91.trans (congrArg some (by kernel_rfl))
  f166 := Tryd.func52.trans (congrArg some (by kernel_rfl))
  f169 := Tryd.func56.trans (congrArg some (by kernel_rfl))
  f170 := Tryd.func58.trans (congrArg some (by kernel_rfl))
  f206 := Tryd.func115.trans (congrArg some (by kernel_rfl))
  f212 := Tryd.func89.trans (congrArg some (by kernel_rfl))
  f240 := Tryd.func86.trans (congrArg some (by kernel_rfl))
  f241 := Tryd.func116.trans (congrArg some (by kernel_rfl))
  f263 := Tryd.func113.trans (congrArg some (by kernel_rfl))
  f264 := Tryd.func114.trans (congrArg some (by kernel_rfl))
  f276 := Tryd.func111.trans (congrArg some (by kernel_rfl))
  f277 := Tryd.func138.trans (congrArg some (by kernel_rfl))
  t0 := Tryd.underlying0
  a0 := Tryd.isAgg0
  z0 := Tryd.sizeOf0
  v0 := Tryd.zeroValue0
  t3 := Tryd.underlying3
  a3 := Tryd.isAgg3
  z3 := Tryd.sizeOf3
  v3 := Tryd.zeroValue3
  t4 := Tryd.underlying4
  a4 := Tryd.isAgg4
  z4 := Tryd.sizeOf4
  v4 := Tryd.zeroValue4
  t5 := Tryd.underlying5
  a5 := Tryd.isAgg5
  z5 := Tryd.sizeOf5
  v5 := Tryd.zeroValue5
  t9 := Tryd.underlying9
  a9 := Tryd.isAgg9
  z9 := Tryd.sizeOf9
  v9 := Tryd.zeroValue9
  t20 := Tryd.underlying20
  a20 := Tryd.isAgg20
  z20 := Tryd.sizeOf20
  v20 := Tryd.zeroValue20
  t37 := Tryd.underlying55
  a37 := Tryd.isAgg55
  z37 := Tryd.sizeOf55
  v37 := Tryd.zeroValue55
  t46 := Tryd.underlying130
  a46 := Tryd.isAgg130
  z46 := Tryd.sizeOf130
  v46 := Tryd.zeroValue130
  t51 := Tryd.underlying128
  a51 := Tryd.isAgg128
  z51 := Tryd.sizeOf128
  v51 := Tryd.zeroValue128
  t53 := Tryd.underlying155
  a53 := Tryd.isAgg155
  z53 := Tryd.sizeOf155
  v53 := Tryd.zeroValue155
  t70 := Tryd.underlying88
  a70 := Tryd.isAgg88
  z70 := Tryd.sizeOf88
  v70 := Tryd.zeroValue88
  t72 := Tryd.underlying90
  a72 := Tryd.isAgg90
  z72 := Tryd.sizeOf90
  v72 := Tryd.zeroValue90
  t75 := Tryd.underlying92
  a75 := Tryd.isAgg92
  z75 := Tryd.sizeOf92
  v75 := Tryd.zeroValue92
  t76 := Tryd.underlying93
  a76 := Tryd.isAgg93
  z76 := Tryd.sizeOf93
  v76 := Tryd.zeroValue93
  t109 := Tryd.underlying132
  a109 := Tryd.isAgg132
  z109 := Tryd.sizeOf132
  v109 := Tryd.zeroValue132
  t127 := Tryd.underlying131
  a127 := Tryd.isAgg131
  z127 := Tryd.sizeOf131
  v127 := Tryd.zeroValue131
  t146 := Tryd.underlying153
  a146 := Tryd.isAgg153
  z146 := Tryd.sizeOf153
  v146 := Tryd.zeroValue153
  t148 := Tryd.underlying156
  a148 := Tryd.isAgg156
  z148 := Tryd.sizeOf156
  v148 := Tryd.zeroValue156
  t164 := Tryd.underlying150
  a164 := Tryd.isAgg150
  z164 := Tryd.sizeOf150
  v164 := Tryd.zeroValue150 }
def mul_ren : Go.Shelf.Ren := ⟨fun | 212 => 89 | 263 => 113 | 264 => 114 | n => n, fun | 46 => 130 | 51 => 128 | 146 => 153 | 53 => 155 | 148 => 156 | n => n, fun | n => n⟩
theorem mul : Go.Proofs.Lays.n212 Tryd.prog mul_ren := {
  mixed := by kernel_rfl
  f212 := Tryd.func89.trans (congrArg some (by kernel_rfl))
  f263 := Tryd.func113.trans (congrArg some (by kernel_rfl))
  f264 := Tryd.func114.trans (congrArg some (by kernel_rfl))
  t46 := Tryd.underlying130
  a46 := Tryd.isAgg130
  z46 := Tryd.sizeOf130
  v46 := Tryd.zeroValue130
  t51 := Tryd.underlying128
  a51 := Tryd.isAgg128
  z51 := Tryd.sizeOf128
  v51 := Tryd.zeroValue128
  t53 := Tryd.underlying155
  a53 := Tryd.isAgg155
  z53 := Tryd.sizeOf155
  v53 := Tryd.zeroValue155
  t146 := Tryd.underlying153
  a146 := Tryd.isAgg153
  z146 := Tryd.sizeOf153
  v146 := Tryd.zeroValue153
  t148 := Tryd.underlying156
  a148 := Tryd.isAgg156
  z148 := Tryd.sizeOf156
  v148 := Tryd.zeroValue156 }
theorem jl_extra : Builder.Extra Tryd.prog jl_ren := {
  sizeBuilder := by kernel_rfl
  liesBuilder := by kernel_rfl
  t5 := Tryd.underlying5
  a5 := Tryd.isAgg5
  z5 := Tryd.sizeOf5
  v5 := Tryd.zeroValue5
  infoByte := by kernel_rfl
  cellsByte := by kernel_rfl
  sizeByte := by kernel_rfl
  neB5 := by decide }
theorem Has.of_below {E w w' : World} {ss : List (List Hp)} (H : Has E w ss) (hb : Go.RowKit.Below w.heap.size w w') : Has E w' ss :=
  ⟨hb.os.trans H.os, hb.tape.trans H.tape, hb.output.trans H.output, H.dj, fun h hh b o ho => by
    have h1 := Has0.sub H h hh b o ho
    rw [hb.block b (Array.getElem?_eq_some_iff.1 h1).1]; exact h1⟩
theorem join_flat : ∀ l : List (List UInt8), Lib.join l [] = l.flatten
  | [] => rfl
  | [x] => by rw [Lib.join_one]; simp
  | x :: y :: r => by
    have h := join_flat (y :: r)
    unfold Lib.join List.intercalate at *
    rw [List.intersperse_cons_cons, List.flatten_cons, List.flatten_cons, h, List.nil_append]; rfl
theorem join_c {E w : World} {R : List Hp} (hH : Has E w [R]) {v : Value} {l : List (List UInt8)} (hv : Sl R 1 v l.length (l.map S)) (hn : l.length ≤ 1000000) (hl : l.flatten.length ≤ 1000000000) :
    Calls Tryd.prog 68 #[v, S []] w fun e w' => e = .returned (S l.flatten) ∧ Has E w' [R] := by
  obtain ⟨p, cap, rfl, h1, h2, h3, h4⟩ := hv
  rcases Nat.eq_zero_or_pos l.length with h0 | h0
  · obtain rfl := List.eq_nil_of_length_eq_zero h0
    exact (Any.strings_Join_none jl jl_extra p cap ⟨#[]⟩ w).mono fun e w' ⟨he, hw⟩ => ⟨he, by rw [hw]; exact hH⟩
  · obtain ⟨b, off, rfl, hc⟩ := h4 h0
    have hcell : ∀ (j : Nat) x, (l.map (fun a => (⟨a.toArray⟩ : ByteArray)))[j]? = some x → w.cell? ⟨b, off + j, none⟩ = some (.string x) := fun j x hx => by
      rw [List.getElem?_map, Option.map_eq_some_iff] at hx
      obtain ⟨a, ha, rfl⟩ := hx
      exact hH.cell (L := R) (by simp) hc (v := S a) (by rw [List.getElem?_map, ha]; rfl)
    have hb : b < w.heap.size := by
      obtain ⟨x, hx⟩ : ∃ x, l[0]? = some x := ⟨l[0], List.getElem?_eq_getElem h0⟩
      have := hcell 0 ⟨x.toArray⟩ (by rw [List.getElem?_map, hx]; rfl)
      unfold World.cell? at this
      cases hw : w.heap[b]? with
      | none => rw [hw] at this; cases this
      | some o => exact (Array.getElem?_eq_some_iff.1 hw).1
    have e1 : (l.map (fun a => (⟨a.toArray⟩ : ByteArray))).map (·.data.toList) = l := by rw [List.map_map]; simp [Function.comp_def]
    have hj : Lib.join ((l.map (fun a => (⟨a.toArray⟩ : ByteArray))).map (·.data.toList)) ((⟨#[]⟩ : ByteArray).data.toList) = l.flatten := by rw [e1]; exact join_flat l
    have hs := Any.strings_Join jl jl_extra b off cap (l.map (fun a => (⟨a.toArray⟩ : ByteArray))) ⟨#[]⟩ w hcell hb (by rw [List.length_map]; omega) (by rw [List.length_map]; exact h1) (by rw [hj]; omega)
    rw [hj, List.length_map] at hs
    exact hs.mono fun e w' ⟨he, hb⟩ => ⟨he, hH.of_below hb⟩
theorem rpl_extra : Builder.Extra Tryd.prog rpl_ren := {
  sizeBuilder := by kernel_rfl
  liesBuilder := by kernel_rfl
  t5 := Tryd.underlying5
  a5 := Tryd.isAgg5
  z5 := Tryd.sizeOf5
  v5 := Tryd.zeroValue5
  infoByte := by kernel_rfl
  cellsByte := by kernel_rfl
  sizeByte := by kernel_rfl
  neB5 := by decide }
theorem repeat_c {E w : World} {R : List Hp} (hH : Has E w [R]) (n : Nat) (hn : n ≤ 1000000) : Calls Tryd.prog 57 #[S [0], .int .i64 (n : Int)] w fun e w' => e = .returned (S (List.replicate n 0)) ∧ Has E w' [R] := by
  have h := Any.strings_Repeat rpl rpl_extra ⟨#[0]⟩ n w (by omega) (by show 1 * n ≤ _; omega)
  refine h.mono fun e w' ⟨he, hb⟩ => ⟨?_, hH.of_below hb⟩
  rw [he]
  have : ∀ n, Lib.repeatL [(0 : UInt8)] n = List.replicate n 0 := fun n => by
    induction n with
    | zero => rfl
    | succ n ih => simp [Lib.repeatL, List.replicate_succ] at *; try exact ih
  exact congrArg (fun l => Ending.returned (Value.string ⟨l.toArray⟩)) (this n)
theorem mul_c {E w : World} {R : List Hp} (hH : Has E w [R]) (x y : Nat) (h : x * y < 18446744073709551616) (hx : x < 18446744073709551616) (hy : y < 18446744073709551616) : Calls Tryd.prog 89 #[.int .u64 x, .int .u64 y] w fun e w' => e = .returned (.tuple #[.int .u64 0, .int .u64 ((x * y : Nat) : Int)]) ∧ Has E w' [R] := by
  refine (Any.bits_Mul mul x y hx hy w).mono fun e w' ⟨he, hw⟩ => ⟨?_, hw ▸ hH⟩
  rw [he, Nat.div_eq_of_lt h, Nat.mod_eq_of_lt h]; rfl
end Go.Q
namespace Go.Q
open Go.Proofs
set_option linter.unusedVariables false
set_option maxRecDepth 100000
attribute [local irreducible] wpList OK Code.wp
set_option maxHeartbeats 4000000 in
theorem laid_c {E w : World} {R : List Hp} (hH : Has E w [R]) (hg : CellsAt R 0 0 nibV) {v : Value} {l : List (List UInt8)} (hv : Sl R 1 v l.length (l.map sV)) (hlb : ∀ x ∈ l, x.length ≤ 9223372036854775807) :
    Calls Tryd.prog 88 #[v] w fun e w' => e = .returned (S (laidS (crcS l.flatten))) ∧ Has E w' [R] := by
  refine c_enter (args := [v]) Tryd.func88 rfl Tryd.ntmps88 (by simp) ?_
  refine wp_seq_k fun K1 hK1 => ?_
  refine c_region ?_
  refine s_op (o_assign (v := (S ([] : List UInt8))) rfl ?_)
  refine s_nil ?_
  refine t_norm (hK1 _ _ ?_)
  refine wp_seq_k fun K2 hK2 => ?_
  refine c_region ?_
  refine s_op (o_move (v := v) rfl ?_)
  refine s_op (o_callf (vs := #[v]) ca112 rfl (args1 rfl) (of2_c hH.all (hg.mono (seg_sub 0 rfl)) (hv.mono (seg_sub 0 rfl)) hlb) ?_)
  rintro _ w5 ⟨rfl, hX3⟩
  refine ⟨_, rfl, ?_⟩
  have hH4 := hX3.of_all
  refine s_op (o_assign (v := (.int .u32 ((crcS l.flatten).toNat : Int))) rfl ?_)
  refine s_nil ?_
  refine t_norm (hK2 _ _ ?_)
  refine wp_seq_k fun K6 hK6 => ?_
  refine c_region ?_
  refine s_op (o_move (v := (.int .u32 ((crcS l.flatten).toNat : Int))) rfl ?_)
  refine s_op (o_conv (c := ((lo8 (crcS l.flatten)).toNat : Int)) Tryd.underlying128 Tryd.underlying5 rfl (conv_lo8 _) ?_)
  refine s_op (o_move (v := (.int .u32 ((crcS l.flatten).toNat : Int))) rfl ?_)
  refine s_op (o_shr (a := (((crcS l.flatten)).toNat : Int)) (b := ((8 : Nat) : Int)) (c := (((crcS l.flatten) >>> 8).toNat : Int)) rfl rfl (by omega) (shr32 (crcS l.flatten) 8 (by omega)) ?_)
  refine s_op (o_conv (c := ((lo8 ((crcS l.flatten) >>> 8)).toNat : Int)) Tryd.underlying128 Tryd.underlying5 rfl (conv_lo8 _) ?_)
  refine s_op (o_move (v := (.int .u32 ((crcS l.flatten).toNat : Int))) rfl ?_)
  refine s_op (o_shr (a := (((crcS l.flatten)).toNat : Int)) (b := ((16 : Nat) : Int)) (c := (((crcS l.flatten) >>> 16).toNat : Int)) rfl rfl (by omega) (shr32 (crcS l.flatten) 16 (by omega)) ?_)
  refine s_op (o_conv (c := ((lo8 ((crcS l.flatten) >>> 16)).toNat : Int)) Tryd.underlying128 Tryd.underlying5 rfl (conv_lo8 _) ?_)
  refine s_op (o_move (v := (.int .u32 ((crcS l.flatten).toNat : Int))) rfl ?_)
  refine s_op (o_shr (a := (((crcS l.flatten)).toNat : Int)) (b := ((24 : Nat) : Int)) (c := (((crcS l.flatten) >>> 24).toNat : Int)) rfl rfl (by omega) (shr32 (crcS l.flatten) 24 (by omega)) ?_)
  refine s_op (o_conv (c := ((lo8 ((crcS l.flatten) >>> 24)).toNat : Int)) Tryd.underlying128 Tryd.underlying5 rfl (conv_lo8 _) ?_)
  refine s_op (o_buildSlice (ps := #[(0, (bV (lo8 (crcS l.flatten)))), (1, (bV (lo8 ((crcS l.flatten) >>> 8)))), (2, (bV (lo8 ((crcS l.flatten) >>> 16)))), (3, (bV (lo8 ((crcS l.flatten) >>> 24))))]) (cells := #[(bV (lo8 (crcS l.flatten))), (bV (lo8 ((crcS l.flatten) >>> 8))), (bV (lo8 ((crcS l.flatten) >>> 16))), (bV (lo8 ((crcS l.flatten) >>> 24)))]) Tryd.underlying55 ti5 (by decide) (parts4 rfl rfl rfl rfl) (by kernel_rfl) hH4 fun b7 w8 hH9 => ?_)
  refine s_op (o_bstr Tryd.underlying55 Tryd.underlying5 Tryd.underlying9 rfl (sl_lit (f := bV) (l := [(lo8 (crcS l.flatten)), (lo8 ((crcS l.flatten) >>> 8)), (lo8 ((crcS l.flatten) >>> 16)), (lo8 ((crcS l.flatten) >>> 24))]) rfl rfl (by simp)) hH9 (seg_sub 0 rfl) ?_)
  refine s_op (o_assign (v := (S [(lo8 (crcS l.flatten)), (lo8 ((crcS l.flatten) >>> 8)), (lo8 ((crcS l.flatten) >>> 16)), (lo8 ((crcS l.flatten) >>> 24))])) rfl ?_)
  refine s_nil ?_
  refine t_norm (hK6 _ _ ?_)
  refine wp_ret ?_
  refine c_ret1 Tryd.results88  (v := (S [(lo8 (crcS l.flatten)), (lo8 ((crcS l.flatten) >>> 8)), (lo8 ((crcS l.flatten) >>> 16)), (lo8 ((crcS l.flatten) >>> 24))])) rfl ?_
  have hH10 : Has E w8 [R] := (hH9.front 1 rfl).first 1 rfl
  exact ⟨rfl, hH10⟩
set_option maxHeartbeats 4000000 in
theorem reflaid_c {E w : World} {R : List Hp} (hH : Has E w [R]) (t : List UInt8) (hl : t.length ≤ 9223372036854775807) :
    Calls Tryd.prog 48 #[(S t)] w fun e w' => e = .returned (S (laidS (crcS t))) ∧ Has E w' [R] := by
  refine c_enter (args := [(S t)]) Tryd.func48 rfl Tryd.ntmps48 (by simp) ?_
  refine wp_seq_k fun K1 hK1 => ?_
  refine c_region ?_
  refine s_op (o_assign (v := (S ([] : List UInt8))) rfl ?_)
  refine s_nil ?_
  refine t_norm (hK1 _ _ ?_)
  refine wp_seq_k fun K2 hK2 => ?_
  refine c_region ?_
  refine s_op (o_move (v := (S t)) rfl ?_)
  refine s_op (o_callf (vs := #[(S t)]) ca85 rfl (args1 rfl) (refsum_c hH.all t hl) ?_)
  rintro _ w5 ⟨rfl, hX3⟩
  refine ⟨_, rfl, ?_⟩
  have hH4 := hX3.of_all
  refine s_op (o_assign (v := (.int .u32 ((crcS t).toNat : Int))) rfl ?_)
  refine s_nil ?_
  refine t_norm (hK2 _ _ ?_)
  refine wp_seq_k fun K6 hK6 => ?_
  refine c_region ?_
  refine s_op (o_move (v := (.int .u32 ((crcS t).toNat : Int))) rfl ?_)
  refine s_op (o_rem (a := ((crcS t).toNat : Int)) (b := 256) (c := ((crcS t).toNat : Int) % 256) rfl rfl (by omega) ((Int.tmod_eq_emod_of_nonneg (by first | exact Int.natCast_nonneg _ | omega))) ?_)
  refine s_op (o_conv (c := ((by8 (((crcS t).toNat : Int) % 256)).toNat : Int)) Tryd.underlying128 Tryd.underlying5 rfl (wrap_by8 _) ?_)
  refine s_op (o_move (v := (.int .u32 ((crcS t).toNat : Int))) rfl ?_)
  refine s_op (o_quo (a := (((crcS t)).toNat : Int)) (b := ((256 : Nat) : Int)) (c := (((crcS t) >>> 8).toNat : Int)) rfl rfl (by decide) (quo32 (crcS t) 256 8 (by decide)) ?_)
  refine s_op (o_rem (a := (((crcS t) >>> 8).toNat : Int)) (b := 256) (c := (((crcS t) >>> 8).toNat : Int) % 256) rfl rfl (by omega) ((Int.tmod_eq_emod_of_nonneg (by first | exact Int.natCast_nonneg _ | omega))) ?_)
  refine s_op (o_conv (c := ((by8 ((((crcS t) >>> 8).toNat : Int) % 256)).toNat : Int)) Tryd.underlying128 Tryd.underlying5 rfl (wrap_by8 _) ?_)
  refine s_op (o_move (v := (.int .u32 ((crcS t).toNat : Int))) rfl ?_)
  refine s_op (o_quo (a := (((crcS t)).toNat : Int)) (b := ((65536 : Nat) : Int)) (c := (((crcS t) >>> 16).toNat : Int)) rfl rfl (by decide) (quo32 (crcS t) 65536 16 (by decide)) ?_)
  refine s_op (o_rem (a := (((crcS t) >>> 16).toNat : Int)) (b := 256) (c := (((crcS t) >>> 16).toNat : Int) % 256) rfl rfl (by omega) ((Int.tmod_eq_emod_of_nonneg (by first | exact Int.natCast_nonneg _ | omega))) ?_)
  refine s_op (o_conv (c := ((by8 ((((crcS t) >>> 16).toNat : Int) % 256)).toNat : Int)) Tryd.underlying128 Tryd.underlying5 rfl (wrap_by8 _) ?_)
  refine s_op (o_move (v := (.int .u32 ((crcS t).toNat : Int))) rfl ?_)
  refine s_op (o_quo (a := (((crcS t)).toNat : Int)) (b := ((16777216 : Nat) : Int)) (c := (((crcS t) >>> 24).toNat : Int)) rfl rfl (by decide) (quo32 (crcS t) 16777216 24 (by decide)) ?_)
  refine s_op (o_conv (c := ((lo8 ((crcS t) >>> 24)).toNat : Int)) Tryd.underlying128 Tryd.underlying5 rfl (conv_lo8 _) ?_)
  refine s_op (o_buildSlice (ps := #[(0, (bV (by8 (((crcS t).toNat : Int) % 256)))), (1, (bV (by8 ((((crcS t) >>> 8).toNat : Int) % 256)))), (2, (bV (by8 ((((crcS t) >>> 16).toNat : Int) % 256)))), (3, (bV (lo8 ((crcS t) >>> 24))))]) (cells := #[(bV (by8 (((crcS t).toNat : Int) % 256))), (bV (by8 ((((crcS t) >>> 8).toNat : Int) % 256))), (bV (by8 ((((crcS t) >>> 16).toNat : Int) % 256))), (bV (lo8 ((crcS t) >>> 24)))]) Tryd.underlying55 ti5 (by decide) (parts4 rfl rfl rfl rfl) (by kernel_rfl) hH4 fun b7 w8 hH9 => ?_)
  refine s_op (o_bstr Tryd.underlying55 Tryd.underlying5 Tryd.underlying9 rfl (sl_lit (f := bV) (l := [(by8 (((crcS t).toNat : Int) % 256)), (by8 ((((crcS t) >>> 8).toNat : Int) % 256)), (by8 ((((crcS t) >>> 16).toNat : Int) % 256)), (lo8 ((crcS t) >>> 24))]) rfl rfl (by simp)) hH9 (seg_sub 0 rfl) ?_)
  refine s_op (o_assign (v := (S [(by8 (((crcS t).toNat : Int) % 256)), (by8 ((((crcS t) >>> 8).toNat : Int) % 256)), (by8 ((((crcS t) >>> 16).toNat : Int) % 256)), (lo8 ((crcS t) >>> 24))])) rfl ?_)
  refine s_nil ?_
  refine t_norm (hK6 _ _ ?_)
  refine wp_ret ?_
  refine c_ret1 Tryd.results48  (v := (S [(by8 (((crcS t).toNat : Int) % 256)), (by8 ((((crcS t) >>> 8).toNat : Int) % 256)), (by8 ((((crcS t) >>> 16).toNat : Int) % 256)), (lo8 ((crcS t) >>> 24))])) rfl ?_
  have hH10 : Has E w8 [R] := (hH9.front 1 rfl).first 1 rfl
  exact ⟨by rw [laidS_ref], hH10⟩
set_option maxHeartbeats 4000000 in
theorem seal_c {E w : World} {R : List Hp} (hH : Has E w [R]) (hg : CellsAt R 0 0 nibV) {v : Value} {l : List (List UInt8)} (hv : Sl R 1 v l.length (l.map sV)) (hn : l.length ≤ 1000000) (hl : l.flatten.length ≤ 1000000000) :
    Calls Tryd.prog 55 #[v] w fun e w' => e = .returned (S (sealS l.flatten)) ∧ Has E w' [R] := by
  refine c_enter (args := [v]) Tryd.func55 rfl Tryd.ntmps55 (by simp) ?_
  refine wp_seq_k fun K1 hK1 => ?_
  refine c_region ?_
  refine s_op (o_assign (v := (S ([] : List UInt8))) rfl ?_)
  refine s_nil ?_
  refine t_norm (hK1 _ _ ?_)
  refine wp_seq_k fun K2 hK2 => ?_
  refine c_region ?_
  refine s_op (o_move (v := v) rfl ?_)
  refine s_op (o_callf (vs := #[v, (S ([] : List UInt8))]) ca68 rfl (args2 rfl rfl) (join_c hH.all (hv.mono (seg_sub 0 rfl)) hn hl) ?_)
  rintro _ w5 ⟨rfl, hX3⟩
  refine ⟨_, rfl, ?_⟩
  have hH4 := hX3.of_all
  refine s_op (o_move (v := v) rfl ?_)
  refine s_op (o_callf (vs := #[v]) ca88 rfl (args1 rfl) (laid_c hH4.all (hg.mono (seg_sub 0 rfl)) (hv.mono (seg_sub 0 rfl)) (fun x hx => by have := flat_le hx; omega)) ?_)
  rintro _ w8 ⟨rfl, hX6⟩
  refine ⟨_, rfl, ?_⟩
  have hH7 := hX6.of_all
  refine s_op (o_sadd rfl rfl (by rw [laidS_len]; omega) ?_)
  refine s_op (o_assign (v := (S (l.flatten ++ (laidS (crcS l.flatten))))) rfl ?_)
  refine s_nil ?_
  refine t_norm (hK2 _ _ ?_)
  refine wp_ret ?_
  refine c_ret1 Tryd.results55  (v := (S (l.flatten ++ (laidS (crcS l.flatten))))) rfl ?_
  exact ⟨rfl, hH7⟩
end Go.Q
namespace Go.Q
theorem setE_bad {no gsn g : Int} {l : List Cel} {key : Bs} {v : Bool × Bs} (h : pageR no gsn l = false ∨ keyR key = false ∨ valR v = false ∨ g ≤ gsn ∨ 4611686018427387903 < g) : setE no gsn l key v g = 1 := by
  unfold setE
  rw [if_neg]
  intro e
  simp only [Bool.and_eq_true, decide_eq_true_eq] at e
  rcases h with h | h | h | h | h
  · rw [e.1.1.1] at h; cases h
  · rw [e.1.1.2] at h; cases h
  · rw [e.1.2] at h; cases h
  · omega
  · omega
theorem setE_ok {no gsn g : Int} {l : List Cel} {key : Bs} {v : Bool × Bs} (h1 : pageR no gsn l = true) (h2 : keyR key = true) (h3 : valR v = true) (h4 : ¬ g ≤ gsn) (h5 : ¬ 4611686018427387903 < g) :
    setE no gsn l key v g = if v.1 = false ∧ hasC l key = false then 7 else if v.1 = true ∧ hasC l key = false ∧ 8 ≤ l.length then 4 else 0 := by
  unfold setE
  rw [if_pos]
  simp only [Bool.and_eq_true, decide_eq_true_eq]
  exact ⟨⟨⟨h1, h2⟩, h3⟩, by omega⟩
theorem setE_one {no gsn g : Int} {l : List Cel} {key : Bs} {v : Bool × Bs} (h : setE no gsn l key v g ≠ 1) : pageR no gsn l = true ∧ keyR key = true ∧ valR v = true ∧ gsn < g ∧ g ≤ 4611686018427387903 := by
  unfold setE at h
  split at h
  · rename_i e
    simp only [Bool.and_eq_true, decide_eq_true_eq] at e
    exact ⟨e.1.1.1, e.1.1.2, e.1.2, e.2⟩
  · exact absurd rfl h
/-- the page that is told -/
def setNo (no gsn : Int) (l : List Cel) (key : Bs) (v : Bool × Bs) (g : Int) : Int := if setE no gsn l key v g = 0 then no else 0
def setG (no gsn : Int) (l : List Cel) (key : Bs) (v : Bool × Bs) (g : Int) : Int := if setE no gsn l key v g = 0 then g else 0
def setL (no gsn : Int) (l : List Cel) (key : Bs) (v : Bool × Bs) (g : Int) : List Cel := if setE no gsn l key v g = 0 then setC l key v else []
theorem pageR_iff {no gsn : Int} {l : List Cel} : pageR no gsn l = true ↔ (0 ≤ no ∧ no < 64 ∧ 0 ≤ gsn ∧ gsn ≤ 4611686018427387903) ∧ cellsR l = true := by
  unfold pageR; rw [Bool.and_eq_true, decide_eq_true_iff]
/-! ### as the document makes it -/
def putL (key s : Bs) : Bool → List Cel → List Cel
  | d, [] => if d = true then [] else [(key, s)]
  | d, c :: t => (if d = false ∧ ¬ c.1 < key then [(key, s)] else []) ++ ((if c.1 ≠ key then [c] else []) ++ putL key s (d || !decide (c.1 < key)) t)
theorem putL_step {key s : Bs} {d : Bool} {l out : List Cel} {k : Nat} {c : Cel} {X : List Cel} (h : X = out ++ putL key s d (l.drop k)) (hx : l[k]? = some c) :
    X = out ++ (if d = false ∧ ¬ c.1 < key then [(key, s)] else []) ++ (if c.1 ≠ key then [c] else []) ++ putL key s (d || !decide (c.1 < key)) (l.drop (k + 1)) := by
  obtain ⟨h1, h2⟩ := List.getElem?_eq_some_iff.1 hx
  rw [h, List.drop_eq_getElem_cons h1, h2, putL]
  simp only [List.append_assoc]
theorem putL_end {key s : Bs} {d : Bool} {l out : List Cel} {k : Nat} {X : List Cel} (h : X = out ++ putL key s d (l.drop k)) (hk : k = l.length) : X = out ++ (if d = true then [] else [(key, s)]) := by
  rw [h, hk, List.drop_length, putL]
theorem putL_true {key s : Bs} : ∀ {l : List Cel}, putL key s true l = l.filter fun c => decide (c.1 ≠ key)
  | [] => rfl
  | c :: t => by
    rw [putL, List.filter_cons, Bool.true_or, putL_true]
    by_cases h : c.1 = key <;> simp [h]
theorem rises_cons {c : Cel} {t : List Cel} (h : Rises (c :: t)) : (∀ a ∈ t, c.1 < a.1) ∧ Rises t := List.pairwise_cons.1 h
theorem pos_zero {key : Bs} {l : List Cel} (h : ∀ a ∈ l, ¬ a.1 < key) : posC l key = 0 := by
  unfold posC
  rw [List.filter_eq_nil_iff.2 (fun a ha => by simpa using h a ha)]; rfl
theorem pos_cons {key : Bs} {c : Cel} {t : List Cel} (h : c.1 < key) : (posC (c :: t) key).toNat = (posC t key).toNat + 1 := by
  unfold posC
  rw [List.filter_cons, if_pos (decide_eq_true h)]
  simp only [List.length_cons]; omega
theorem has_cons {key : Bs} {c : Cel} {t : List Cel} (h : c.1 ≠ key) : hasC (c :: t) key = hasC t key := by
  unfold hasC; rw [List.any_cons, decide_eq_false h, Bool.false_or]
theorem filter_same {key : Bs} {l : List Cel} (h : ∀ a ∈ l, key < a.1) : (l.filter fun c => decide (c.1 ≠ key)) = l := List.filter_eq_self.2 fun a ha => decide_eq_true fun e => by
  have := h a ha; rw [e] at this; exact bs_irr _ this
theorem has_none {key : Bs} {l : List Cel} (h : ∀ a ∈ l, key < a.1) : hasC l key = false := by
  unfold hasC; rw [List.any_eq_false]; intro a ha
  rw [decide_eq_true_iff]; intro e
  have := h a ha; rw [e] at this; exact bs_irr _ this
theorem put_true {key s : Bs} : ∀ {l : List Cel}, Rises l → putL key s false l = setC l key (true, s)
  | [], _ => by simp [putL, setC, hasC, posC, insAt]
  | c :: t, h => by
    obtain ⟨h1, h2⟩ := rises_cons h
    by_cases hlt : c.1 < key
    · have hne : c.1 ≠ key := fun e => by rw [e] at hlt; exact bs_irr _ hlt
      have ih := put_true (key := key) (s := s) h2
      rw [putL, if_neg (by simp [hlt]), if_pos hne, decide_eq_true hlt, List.nil_append, Bool.not_true, Bool.or_false, ih]
      unfold setC
      rw [if_pos rfl, if_pos rfl, has_cons hne, pos_cons hlt]
      split
      · rfl
      · simp [insAt]
    · rw [putL, if_pos ⟨rfl, hlt⟩, decide_eq_false hlt, Bool.not_false, Bool.or_true, putL_true]
      unfold setC
      rw [if_pos rfl]
      by_cases he : c.1 = key
      · have ht : ∀ a ∈ t, key < a.1 := fun a ha => by rw [← he]; exact h1 a ha
        rw [if_pos (show hasC (c :: t) key = true by unfold hasC; rw [List.any_cons, decide_eq_true he, Bool.true_or]), pos_zero (fun a ha => ?_), if_neg (by simp [he]), filter_same ht]
        · rfl
        · rcases List.mem_cons.1 ha with e | e
          · rw [e]; exact hlt
          · exact fun g => bs_irr _ (bs_tr g (ht a e))
      · have hgt : key < c.1 := by
          rcases List.le_iff_lt_or_eq.1 (List.not_lt.1 hlt) with e | e
          · exact e
          · exact absurd e.symm he
        have ht : ∀ a ∈ t, key < a.1 := fun a ha => bs_tr hgt (h1 a ha)
        rw [if_neg (show ¬ hasC (c :: t) key = true by rw [has_cons he, has_none ht]; simp), pos_zero (fun a ha => ?_), if_pos he, filter_same ht]
        · simp [insAt]
        · rcases List.mem_cons.1 ha with e | e
          · rw [e]; exact hlt
          · exact fun g => bs_irr _ (bs_tr g (ht a e))
theorem put_false {key s : Bs} : ∀ {l : List Cel}, Rises l → hasC l key = true → putL key s true l = setC l key (false, s)
  | [], _, hh => by simp [hasC] at hh
  | c :: t, h, hh => by
    obtain ⟨h1, h2⟩ := rises_cons h
    rw [putL_true]
    unfold setC
    rw [if_neg (by simp)]
    by_cases he : c.1 = key
    · have ht : ∀ a ∈ t, key < a.1 := fun a ha => by rw [← he]; exact h1 a ha
      rw [pos_zero (fun a ha => ?_), List.filter_cons, if_neg (by simp [he]), filter_same ht]
      · rfl
      · rcases List.mem_cons.1 ha with e | e
        · rw [e, he]; exact bs_irr _
        · exact fun g => bs_irr _ (bs_tr g (ht a e))
    · have hh2 : hasC t key = true := by rw [← has_cons he]; exact hh
      have hlt : c.1 < key := by
        obtain ⟨a, ha, hb⟩ := List.any_eq_true.1 hh2
        have := h1 a ha
        rw [of_decide_eq_true hb] at this; exact this
      have ih := put_false (key := key) (s := s) h2 hh2
      rw [putL_true] at ih
      unfold setC at ih
      rw [if_neg (by simp)] at ih
      rw [List.filter_cons, if_pos (decide_eq_true he), ih, pos_cons hlt]
      rfl
theorem getC_has : ∀ (l : List Cel) (key : Bs), (getC l key).1 = hasC l key
  | [], _ => rfl
  | c :: t, key => by
    rw [getC]
    by_cases h : c.1 = key
    · rw [if_pos h]; unfold hasC; rw [List.any_cons, decide_eq_true h]; rfl
    · rw [if_neg h, has_cons h]; exact getC_has t key
/-- the document's page, where it tells one -/
theorem put_eq {l : List Cel} {key : Bs} {v : Bool × Bs} (h : Rises l) (hh : v.1 = true ∨ hasC l key = true) : putL key v.2 (!v.1) l = setC l key v := by
  obtain ⟨a, s⟩ := v
  cases a with
  | true => exact put_true h
  | false => exact put_false h (hh.elim (fun e => by cases e) id)
end Go.Q
namespace Go.Q
theorem same_next {α : Type} {a b : List α} {k : Nat} {x y : α} (h : ∀ j, j < k → a[j]? = b[j]?) (hx : a[k]? = some x) (hy : b[k]? = some y) (e : x = y) : ∀ j, j < k + 1 → a[j]? = b[j]? := fun j hj => by
  rcases Nat.lt_or_ge j k with g | g
  · exact h j g
  · obtain rfl : j = k := by omega
    rw [hx, hy, e]
theorem same_all {α : Type} {a b : List α} {k : Nat} (h : ∀ j, j < k → a[j]? = b[j]?) (hk : k = a.length) (hl : a.length = b.length) : a = b := List.ext_getElem? fun j => by
  rcases Nat.lt_or_ge j k with g | g
  · exact h j g
  · rw [List.getElem?_eq_none (by omega), List.getElem?_eq_none (by omega)]
theorem same_not {α : Type} {a b : List α} {k : Nat} {x y : α} (hx : a[k]? = some x) (hy : b[k]? = some y) (e : x ≠ y) : a ≠ b := fun g => by
  subst g; rw [hx] at hy; cases hy; exact e rfl
theorem key_eq0 {k : Bs} (h : (k.length : Int) < 1 ∨ 8 < (k.length : Int)) : keyR k = false := by
  unfold keyR
  rw [Bool.and_eq_false_iff, decide_eq_false_iff_not, decide_eq_false_iff_not]
  rcases h with h | h
  · exact .inl (fun g => g (List.eq_nil_of_length_eq_zero (by omega)))
  · exact .inr (by omega)
theorem key_eq1 {k : Bs} (h : 1 ≤ (k.length : Int) ∧ (k.length : Int) ≤ 8) : keyR k = true := by
  unfold keyR
  rw [Bool.and_eq_true, decide_eq_true_iff, decide_eq_true_iff]
  exact ⟨fun g => by rw [g] at h; simp at h, h.2⟩
theorem key_eq2 {k : Bs} (h : 1 ≤ (k.length : Int)) : keyR k = decide ((k.length : Int) ≤ 8) := by
  by_cases g : (k.length : Int) ≤ 8
  · rw [key_eq1 ⟨h, g⟩, decide_eq_true g]
  · rw [key_eq0 (.inr (by omega)), decide_eq_false g]
theorem pageR_no {no gsn : Int} {l : List Cel} (h : ¬ (0 ≤ no ∧ no < 64 ∧ 0 ≤ gsn ∧ gsn ≤ 4611686018427387903) ∨ 8 < l.length) : pageR no gsn l = false := by
  cases e : pageR no gsn l with
  | false => rfl
  | true =>
    obtain ⟨h1, h2⟩ := pageR_iff.1 e
    have h3 := (cellsR_iff.1 h2).2.2
    rcases h with h | h
    · exact absurd h1 h
    · omega
theorem pageR_nc {no gsn : Int} {l : List Cel} (h : cellsR l = false) : pageR no gsn l = false := by unfold pageR; rw [h, Bool.and_false]
end Go.Q
namespace Go.Q
theorem great_next {l : List Cel} {k : Nat} {c : Cel} (h : ∀ c ∈ l.take k, c.1.length ≤ 100 ∧ c.2.length ≤ 100) (hx : l[k]? = some c) (hc : c.1.length ≤ 100 ∧ c.2.length ≤ 100) : ∀ c ∈ l.take (k + 1), c.1.length ≤ 100 ∧ c.2.length ≤ 100 := by
  rw [take_succ_of hx]
  intro a ha
  rcases List.mem_append.1 ha with e | e
  · exact h a e
  · rw [List.mem_singleton.1 e]; exact hc
end Go.Q
namespace Go.Q
/-- A row of one's own whose block bears a mark behind its last cell. -/
def OwnZ (e : TypeId) (v : Value) (n : Nat) (cs : List Value) (hs : List Hp) : Prop :=
  cs.length = n ∧ ∃ b cap cur, v = .slice (some ⟨b, 0, none⟩) n cap ∧ hs = [Hp.one b (.cells cur e (cur.size, cur.size + 1))] ∧ n ≤ cap ∧ cap ≤ 9223372036854775807 ∧ cur.size = cap ∧ cur.toList.take n = cs
def OwnAtZ (e : TypeId) (v : Value) (n : Nat) (cs : List Value) (hs : List Hp) (b : Nat) : Prop :=
  cs.length = n ∧ ∃ cap cur, v = .slice (some ⟨b, 0, none⟩) n cap ∧ hs = [Hp.one b (.cells cur e (cur.size, cur.size + 1))] ∧ n ≤ cap ∧ cap ≤ 9223372036854775807 ∧ cur.size = cap ∧ cur.toList.take n = cs
theorem OwnZ.sl {e : TypeId} {v : Value} {n : Nat} {cs : List Value} {hs : List Hp} (H : OwnZ e v n cs hs) : Sl hs 1 v n cs := by
  obtain ⟨hl, b, cap, cur, rfl, rfl, h1, h2, h3, h4⟩ := H
  refine ⟨_, _, rfl, h1, h2, by omega, fun _ => ⟨b, 0, rfl, CellsAt.one ?_⟩⟩
  rw [List.drop_zero, hl]; exact h4
theorem OwnZ.one {e : TypeId} {v : Value} {n : Nat} {cs : List Value} {hs : List Hp} (h : OwnZ e v n cs hs) : v.oneCell' = true := h.sl.one
/-- one cell of the front block, written; whatever mark the block bears -/
theorem Has.set1f {E w : World} {ss : List (List Hp)} {b off : Nat} {c : Array Value} {U : TypeId} {f : Nat × Nat} {v : Value} (hlt : off < c.size) (H : Has E w ([Hp.one b (.cells c U f)] :: ss)) :
    Has E (w.setCell ⟨b, off, none⟩ v) ([Hp.one b (.cells (c.setIfInBounds off v) U f)] :: ss) := by
  have hwb : w.heap[b]? = some (.cells c U f) := H.at (h := Hp.one b (.cells c U f)) (by simp) (Hp.one_at _ _)
  refine Has0.write (an := [Hp.one b (.cells c U f)]) (an' := [Hp.one b (.cells (c.setIfInBounds off v) U f)]) (hs := ss.flatten) H rfl rfl rfl (by simp) ?_ ?_ ?_
  · intro k hk
    have hk := hk _ (List.mem_singleton.2 rfl)
    refine .inl fun h hh => ?_
    rw [List.mem_singleton.1 hh]
    unfold Hp.one at hk ⊢
    split at hk
    · cases hk
    · rw [if_neg (by assumption)]
  · intro h hh k o hk
    rw [List.mem_singleton.1 hh] at hk
    obtain ⟨rfl, rfl⟩ := Hp.one_some hk
    simp only [World.setCell, Array.getElem?_modify]
    simp [hwb]
  · intro k _ hk
    have hk := hk _ (List.mem_singleton.2 rfl)
    have : k ≠ b := by rintro rfl; rw [Hp.one_at] at hk; cases hk
    simp only [World.setCell, Array.getElem?_modify]
    rw [if_neg (by omega)]
theorem xor8 (c d : UInt8) : IntKind.wrap .u8 ((BitVec.ofInt 8 (c.toNat : Int) ^^^ BitVec.ofInt 8 (d.toNat : Int)).toNat : Int) = ((c ^^^ d).toNat : Int) := by
  have e : ∀ x : UInt8, BitVec.ofInt 8 (x.toNat : Int) = x.toBitVec := fun x => by rw [BitVec.ofInt_natCast]; simp
  rw [e, e, UInt8.toNat_xor, BitVec.toNat_xor]
  simp only [IntKind.wrap, IntKind.bits, IntKind.signed]
  simp
  have h1 := c.toNat_lt; have h2 := d.toNat_lt
  have := Nat.xor_lt_two_pow (n := 8) h1 h2
  omega
theorem shl8 (n : Nat) (h : n < 8) : IntKind.wrap .u8 (1 * 2 ^ (min ((n : Int)).toNat (IntKind.bits .u8))) = ((UInt8.ofNat (2 ^ n)).toNat : Int) := by
  have : ∀ k : Nat, k < 8 → IntKind.wrap .u8 (1 * 2 ^ (min ((k : Nat) : Int).toNat (IntKind.bits .u8))) = ((UInt8.ofNat (2 ^ k)).toNat : Int) := by decide
  exact this n h
section ops
variable {P : Program} {ρ : Operand → Value} {E w : World} {ss : List (List Hp)} {K : Value → World → Prop} {dst : Option Tmp} {T : TypeId} {pos : String} {after : Array Edge} {g : Option (Nat × Bool)}
theorem o_strb {s e t : TypeId} {x : Operand} {l : List UInt8} (hs : P.underlying s = some .string) (hd : P.underlying t = some (.slice e)) (he : P.underlying e = some (.int .u8)) (hx : ρ x = S l) (hl : l.length ≤ 9223372036854775807) (H : Has E w ss)
    (hK : ∀ v' hs' w', OwnZ e v' l.length (l.map bV) hs' → Has E w' (hs' :: ss) → K v' w') : OK P ⟨dst, .convert s t x, T, pos, after, g⟩ ρ w K := by
  have hr := run_bytes_of_string (P := P) w s t e ⟨l.toArray⟩ hs hd he
  have g1 := grownCap_ge w (ByteArray.size ⟨l.toArray⟩) 0 e
  have g2 := grownCap_le_maxLen w (ByteArray.size ⟨l.toArray⟩) 0 e (by rw [bytes_size, show maxLen = 9223372036854775807 from rfl]; exact hl)
  generalize grownCap w (ByteArray.size ⟨l.toArray⟩) 0 e = cap at hr g1 g2
  rw [bytes_size] at hr g1
  rw [show maxLen = 9223372036854775807 from rfl] at g2
  have c1 : (bytesRow ⟨l.toArray⟩ cap).size = cap := by simp [bytesRow, bytes_size]; omega
  have c2 : (bytesRow ⟨l.toArray⟩ cap).toList.take l.length = l.map bV := by simp [bytesRow]; intro a _; rfl
  generalize bytesRow ⟨l.toArray⟩ cap = C at hr c1 c2
  exact OK.val (run_v (by rw [hx]; exact hr)) (hK _ [Hp.one w.heap.size (.cells C e (C.size, C.size + 1))] _ ⟨by simp, w.heap.size, cap, C, rfl, rfl, g1, g2, c1, c2⟩ ((H.drew (w.drawn + 1)).alloc _))
theorem o_ownAddrZ {x y : Operand} {t e : TypeId} {hs : List Hp} {n by_ : Nat} {v z : Value} {cs : List Value} {k : IntKind} {i : Int} (ht : P.underlying t = some (.slice e)) (hi : TI P e z 1 by_)
    (hx : ρ x = v) (ho : OwnZ e v n cs hs) (hy : ρ y = .int k i) (h0 : 0 ≤ i) (h1 : i < n) (hK : ∀ b, OwnAtZ e v n cs hs b → K (.pointer (some ⟨b, i.toNat, none⟩)) w) :
    OK P ⟨dst, .indexAddr t x y, T, pos, after, g⟩ ρ w K := by
  obtain ⟨hl, b, cap, cur, rfl, rfl, h2, h3, h4, h5⟩ := ho
  refine OK.val (run_v (v := .pointer (some ⟨b, i.toNat, none⟩)) ?_) (hK b ⟨hl, cap, cur, rfl, rfl, h2, h3, h4, h5⟩)
  rw [hx, hy]
  simp [Instr.indexAt, asIntOf, run_underlying ht, h0, h1, hi.size, add_lit]
theorem o_ownStoreZ {α : Type} {f : α → Value} {l : List α} {a : α} {x y : Operand} {t e : TypeId} {hs : List Hp} {n i b by_ : Nat} {v z : Value} (hi : TI P t z 1 by_) (hx : ρ x = .pointer (some ⟨b, i, none⟩)) (hy : ρ y = f a)
    (hv : (f a).oneCell' = true) (ho : OwnAtZ e v n (l.map f) hs b) (hlt : i < n) (H : Has E w (hs :: ss)) (hK : ∀ hs' w', OwnZ e v (l.set i a).length ((l.set i a).map f) hs' → Has E w' (hs' :: ss) → K undef w') :
    OK P ⟨dst, .store t x y, T, pos, after, g⟩ ρ w K := by
  obtain ⟨hl, cap, cur, rfl, rfl, h2, h3, h4, h5⟩ := ho
  have hln : (l.set i a).length = n := by simpa using hl
  have hwb : w.heap[b]? = some (.cells cur e (cur.size, cur.size + 1)) := H.at (h := Hp.one b (.cells cur e (cur.size, cur.size + 1))) (by simp) (Hp.one_at _ _)
  have hlt2 : i < cur.size := by omega
  have hcell : w.cell? ⟨b, i, none⟩ = some cur[i] := by rw [cell_of_row w b i cur e _ hwb]; simp [hlt2]
  have hfz : w.frozen? ⟨b, i, none⟩ = false := by simp [World.frozen?, hwb]; omega
  have hcl : (f a).cells = #[f a] := by cases h : f a <;> first | rfl | (rw [h] at hv; simp [Value.oneCell'] at hv)
  refine OK.skip (w' := w.setCell ⟨b, i, none⟩ (f a)) (run_u ?_) (hK [Hp.one b (.cells (cur.setIfInBounds i (f a)) e (cur.size, cur.size + 1))] _ ?_ (H.set1f hlt2))
  · rw [hx, hy]
    simp only [Instr.storeAt, Instr.sureAddr, Sem.run_bind, Sem.run_pure, Result.andThen_ok, storeVar, hi.size, hcl]
    simp [storeCells, add_lit, run_store P w ⟨b, i, none⟩ (f a) .plain hv, hcell, hfz]
  · rw [hln]
    refine ⟨by simpa using hl, b, cap, _, rfl, by rw [Array.size_setIfInBounds], h2, h3, by simpa using h4, ?_⟩
    rw [Array.toList_setIfInBounds, List.take_set, h5, List.map_set]
end ops
end Go.Q
namespace Go.Q
structure Fr where
  ep : Int
  pl : Int
  gsn : Int
  data : List UInt8
def frC (f : Fr) : List Value := [iV f.ep, iV f.pl, iV f.gsn, S f.data]
theorem frC_len (f : Fr) : (frC f).length = 4 := rfl
theorem one_fr (l : List Fr) : ∀ u ∈ l.flatMap frC, u.oneCell' = true := one_flat (fun f u hu => by
  simp only [frC, List.mem_cons, List.not_mem_nil, or_false] at hu
  rcases hu with rfl | rfl | rfl | rfl <;> rfl) l
def rightS (f : Fr) : Bool := decide (0 ≤ f.ep ∧ f.ep ≤ 2147483647 ∧ 0 ≤ f.pl ∧ f.pl ≤ 4611686018427387903 ∧ 0 ≤ f.gsn ∧ f.gsn ≤ 4611686018427387903 ∧ f.data.length ≤ 200)
theorem rightS_of {f : Fr} (h : rightS f = true) : 0 ≤ f.ep ∧ f.ep ≤ 2147483647 ∧ 0 ≤ f.pl ∧ f.pl ≤ 4611686018427387903 ∧ 0 ≤ f.gsn ∧ f.gsn ≤ 4611686018427387903 ∧ f.data.length ≤ 200 := of_decide_eq_true h
def headS (f : Fr) : List UInt8 := beFrom (f.data.length : Int) 1 ++ (beFrom f.ep 4 ++ (beFrom f.pl 8 ++ beFrom f.gsn 8))
theorem headS_len (f : Fr) : (headS f).length = 21 := by simp only [headS, List.length_append, beFrom_length]
def makeS (f : Fr) : List UInt8 := if rightS f = true then sealS (headS f ++ f.data) else []
theorem makeS_yes {f : Fr} (h : rightS f = true) : makeS f = sealS (headS f ++ f.data) := by rw [makeS, if_pos h]
theorem makeS_no {f : Fr} (h : rightS f = false) : makeS f = [] := by rw [makeS, if_neg (by rw [h]; decide)]
theorem makeS_len {f : Fr} (h : rightS f = true) : (makeS f).length = f.data.length + 25 := by
  rw [makeS_yes h, sealS, List.length_append, List.length_append, headS_len, laidS_len]; omega
theorem fits_lit {n : Int} {m : Nat} {b : Nat} (h0 : 0 ≤ n) (h1 : n < (b : Int)) (h8 : m ≤ 8) (hb : b ≤ 256 ^ m) (h63 : n ≤ 9223372036854775807) : fitsS n m = true := by
  obtain ⟨k, rfl⟩ : ∃ k : Nat, n = k := ⟨n.toNat, by omega⟩
  rw [fits_iff h8 h63]
  exact decide_eq_true (by omega)
theorem put_flat {f : Fr} (h : rightS f = true) : [putS 1 [((f.data.length : Nat) : Int)], putS 4 [f.ep], putS 8 [f.pl, f.gsn], f.data].flatten = headS f ++ f.data := by
  obtain ⟨h1, h2, h3, h4, h5, h6, h7⟩ := rightS_of h
  have f1 : fitsS ((f.data.length : Nat) : Int) 1 = true := fits_lit (b := 256) (by omega) (by omega) (by decide) (by decide) (by omega)
  have f2 : fitsS f.ep 4 = true := fits_lit (b := 2147483648) h1 (by omega) (by decide) (by decide) (by omega)
  have f3 : fitsS f.pl 8 = true := fits_lit (b := 4611686018427387904) h3 (by omega) (by decide) (by decide) (by omega)
  have f4 : fitsS f.gsn 8 = true := fits_lit (b := 4611686018427387904) h5 (by omega) (by decide) (by decide) (by omega)
  rw [putS_yes (by decide) (by decide) (by simpa using f1), putS_yes (by decide) (by decide) (by simpa using f2), putS_yes (by decide) (by decide) (by simpa using ⟨f3, f4⟩)]
  simp [headS]
theorem fits_head {f : Fr} (h : rightS f = true) : fitsS ((f.data.length : Nat) : Int) 1 = true ∧ fitsS f.ep 4 = true ∧ fitsS f.pl 8 = true ∧ fitsS f.gsn 8 = true := by
  obtain ⟨h1, h2, h3, h4, h5, h6, h7⟩ := rightS_of h
  exact ⟨fits_lit (b := 256) (by omega) (by omega) (by decide) (by decide) (by omega), fits_lit (b := 2147483648) h1 (by omega) (by decide) (by decide) (by omega),
    fits_lit (b := 4611686018427387904) h3 (by omega) (by decide) (by decide) (by omega), fits_lit (b := 4611686018427387904) h5 (by omega) (by decide) (by decide) (by omega)⟩
theorem ref_flat {f : Fr} (h : rightS f = true) {a b c d : List UInt8} (ha : fitsS ((f.data.length : Nat) : Int) 1 = true → a = beFrom ((f.data.length : Nat) : Int) 1) (hb : fitsS f.ep 4 = true → b = beFrom f.ep 4)
    (hc : fitsS f.pl 8 = true → c = beFrom f.pl 8) (hd : fitsS f.gsn 8 = true → d = beFrom f.gsn 8) : a ++ b ++ c ++ d ++ f.data = headS f ++ f.data := by
  obtain ⟨h1, h2, h3, h4⟩ := fits_head h
  rw [ha h1, hb h2, hc h3, hd h4]; simp [headS]
end Go.Q
namespace Go.Q
theorem take_be {n : Int} {k : Nat} {more : List UInt8} (h1 : 1 ≤ k) (h8 : k ≤ 8) (hn : n ≤ 9223372036854775807) (h : fitsS n k = true) : takeS (beFrom n k ++ more) k = (n, more, true) := by
  have e := put_one_fits h1 h8 h
  have hne : putS k [n] ≠ [] := fun g => by
    have := beFrom_length n k
    rw [← e, g] at this
    simp at this; omega
  have := back_law (more := more) h1 h8 hn hne
  rwa [e] at this
theorem take_rest_le (s : List UInt8) (m : Nat) : (takeS s m).2.1.length ≤ s.length := by
  unfold takeS
  split
  · simp only [List.length_drop]; omega
  · exact Nat.le_refl _
theorem beVal_one (c : UInt8) : beVal [c] = (c.toNat : Int) := by simp [beVal]
theorem take_one (s : List UInt8) : 0 ≤ (takeS s 1).1 ∧ (takeS s 1).1 ≤ 255 := by
  cases s with
  | nil => unfold takeS; rw [if_neg (by simp)]; simp
  | cons c t =>
    rw [takeS_yes (by decide) (by decide) (by simp) (.inl (by decide))]
    have := c.toNat_lt
    show 0 ≤ beVal [c] ∧ beVal [c] ≤ 255
    rw [beVal_one]; omega
theorem take_one_ok {s : List UInt8} : (takeS s 1).2.2 = decide (1 ≤ s.length) := by
  cases s with
  | nil => unfold takeS; rw [if_neg (by simp)]; rfl
  | cons c t => rw [takeS_yes (by decide) (by decide) (by simp) (.inl (by decide))]; simp
/-- what is read at the beginning -/
def fO (s : List UInt8) : Fr := ⟨(takeS (takeS s 1).2.1 4).1, (takeS (takeS (takeS s 1).2.1 4).2.1 8).1, (takeS (takeS (takeS (takeS s 1).2.1 4).2.1 8).2.1 8).1, (s.take (21 + (takeS s 1).1).toNat).drop 21⟩
def opensB (s : List UInt8) : Bool := (takeS s 1).2.2 && decide ((takeS s 1).1 + 25 ≤ (s.length : Int)) && rightS (fO s) && decide (makeS (fO s) = s.take ((takeS s 1).1 + 25).toNat)
def oF (s : List UInt8) : Fr := if opensB s = true then fO s else ⟨0, 0, 0, []⟩
def oN (s : List UInt8) : Int := if opensB s = true then (takeS s 1).1 + 25 else 0
theorem made_flat {f : Fr} (h : rightS f = true) (more : List UInt8) :
    makeS f ++ more = beFrom ((f.data.length : Nat) : Int) 1 ++ (beFrom f.ep 4 ++ (beFrom f.pl 8 ++ (beFrom f.gsn 8 ++ (f.data ++ (laidS (crcS (headS f ++ f.data)) ++ more))))) := by
  rw [makeS_yes h, sealS]; simp [headS]
theorem made_takes {f : Fr} (h : rightS f = true) (more : List UInt8) : (takeS (makeS f ++ more) 1) = (((f.data.length : Nat) : Int), beFrom f.ep 4 ++ (beFrom f.pl 8 ++ (beFrom f.gsn 8 ++ (f.data ++ (laidS (crcS (headS f ++ f.data)) ++ more)))), true) ∧ fO (makeS f ++ more) = f := by
  obtain ⟨h1, h2, h3, h4⟩ := fits_head h
  obtain ⟨r1, r2, r3, r4, r5, r6, r7⟩ := rightS_of h
  have e1 := take_be (more := beFrom f.ep 4 ++ (beFrom f.pl 8 ++ (beFrom f.gsn 8 ++ (f.data ++ (laidS (crcS (headS f ++ f.data)) ++ more))))) (by decide) (by decide) (by omega) h1
  have e2 := take_be (more := beFrom f.pl 8 ++ (beFrom f.gsn 8 ++ (f.data ++ (laidS (crcS (headS f ++ f.data)) ++ more)))) (by decide) (by decide) (by omega) h2
  have e3 := take_be (more := beFrom f.gsn 8 ++ (f.data ++ (laidS (crcS (headS f ++ f.data)) ++ more))) (by decide) (by decide) (by omega) h3
  have e4 := take_be (more := f.data ++ (laidS (crcS (headS f ++ f.data)) ++ more)) (by decide) (by decide) (by omega) h4
  have hf := made_flat h more
  refine ⟨by rw [hf]; exact e1, ?_⟩
  have hd : ((makeS f ++ more).take (21 + ((f.data.length : Nat) : Int)).toNat).drop 21 = f.data := by
    rw [makeS_yes h, sealS, show (21 + ((f.data.length : Nat) : Int)).toNat = 21 + f.data.length by omega]
    have hl : (headS f ++ f.data).length = 21 + f.data.length := by rw [List.length_append, headS_len]
    rw [← hl, List.append_assoc, List.take_left, ← headS_len f, List.drop_left]
  have e1' := e1
  rw [← hf] at e1'
  unfold fO
  rw [e1']
  simp only [e2, e3, e4, hd]
theorem made_opens {f : Fr} (h : rightS f = true) (more : List UInt8) : opensB (makeS f ++ more) = true := by
  obtain ⟨h1, h2⟩ := made_takes h more
  have hl := makeS_len h
  unfold opensB
  rw [h2, h1, h, Bool.true_and, Bool.and_true, Bool.and_eq_true]
  refine ⟨decide_eq_true (by simp only [List.length_append]; omega), decide_eq_true ?_⟩
  rw [show (((f.data.length : Nat) : Int) + 25).toNat = (makeS f).length by omega, List.take_left]
theorem made_oF {f : Fr} (h : rightS f = true) (more : List UInt8) : oF (makeS f ++ more) = f ∧ oN (makeS f ++ more) = ((f.data.length : Nat) : Int) + 25 := by
  unfold oF oN
  rw [if_pos (made_opens h more), if_pos (made_opens h more), (made_takes h more).1, (made_takes h more).2]
  exact ⟨rfl, rfl⟩
theorem opens_made {s : List UInt8} (h : opensB s = true) : rightS (fO s) = true ∧ ((fO s).data.length : Int) = (takeS s 1).1 ∧ s = makeS (fO s) ++ s.drop ((takeS s 1).1 + 25).toNat ∧ (takeS s 1).1 + 25 ≤ (s.length : Int) := by
  unfold opensB at h
  rw [Bool.and_eq_true, Bool.and_eq_true, Bool.and_eq_true] at h
  obtain ⟨⟨⟨h1, h2⟩, h3⟩, h4⟩ := h
  have h2 := of_decide_eq_true h2
  have h4 := of_decide_eq_true h4
  have h0 := take_one s
  refine ⟨h3, ?_, by rw [h4, List.take_append_drop], h2⟩
  show ((((s.take (21 + (takeS s 1).1).toNat).drop 21).length : Nat) : Int) = _
  rw [List.length_drop, List.length_take]; omega
/-- an opened one is a made one with something behind -/
theorem opens_iff {s : List UInt8} : opensB s = true ↔ ∃ f more, rightS f = true ∧ s = makeS f ++ more := by
  constructor
  · intro h; obtain ⟨h1, _, h3, _⟩ := opens_made h; exact ⟨_, _, h1, h3⟩
  · rintro ⟨f, more, h, rfl⟩; exact made_opens h more
/-- as the document has it -/
def fR (s : List UInt8) (c : UInt8) : Fr := ⟨(takeS (s.drop 1) 4).1, (takeS (s.drop 5) 8).1, (takeS (s.drop 13) 8).1, (s.take (21 + (c.toNat : Int)).toNat).drop 21⟩
theorem drop_be (a b c : List UInt8) (n : Nat) (h : a.length = n) : (a ++ b).drop n = b := by rw [← h, List.drop_left]
theorem ref_opens {s : List UInt8} {c : UInt8} (hc : s[0]? = some c) (h25 : 25 ≤ s.length) (hl : 25 + (c.toNat : Int) ≤ (s.length : Int)) :
    opensB s = ((takeS (s.drop 5) 8).2.2 && (takeS (s.drop 13) 8).2.2 && rightS (fR s c) && decide (makeS (fR s c) = s.take (25 + ((fR s c).data.length : Int)).toNat)) ∧
    (opensB s = true → fO s = fR s c ∧ (takeS s 1).1 = (c.toNat : Int)) := by
  have key : opensB s = true → (takeS (s.drop 5) 8).2.2 = true ∧ (takeS (s.drop 13) 8).2.2 = true ∧ fO s = fR s c ∧ (takeS s 1).1 = (c.toNat : Int) := by
    intro h
    obtain ⟨f, more, hr, rfl⟩ := opens_iff.1 h
    obtain ⟨h1, h2, h3, h4⟩ := fits_head hr
    obtain ⟨r1, r2, r3, r4, r5, r6, r7⟩ := rightS_of hr
    have hf := made_flat hr more
    have d1 : (makeS f ++ more).drop 1 = beFrom f.ep 4 ++ (beFrom f.pl 8 ++ (beFrom f.gsn 8 ++ (f.data ++ (laidS (crcS (headS f ++ f.data)) ++ more)))) := by rw [hf]; exact drop_be _ _ [] 1 (beFrom_length _ _)
    have d5 : (makeS f ++ more).drop 5 = beFrom f.pl 8 ++ (beFrom f.gsn 8 ++ (f.data ++ (laidS (crcS (headS f ++ f.data)) ++ more))) := by
      rw [show (5 : Nat) = 1 + 4 from rfl, ← List.drop_drop, d1]; exact drop_be _ _ [] 4 (beFrom_length _ _)
    have d13 : (makeS f ++ more).drop 13 = beFrom f.gsn 8 ++ (f.data ++ (laidS (crcS (headS f ++ f.data)) ++ more)) := by
      rw [show (13 : Nat) = 5 + 8 from rfl, ← List.drop_drop, d5]; exact drop_be _ _ [] 8 (beFrom_length _ _)
    have e2 := take_be (more := beFrom f.pl 8 ++ (beFrom f.gsn 8 ++ (f.data ++ (laidS (crcS (headS f ++ f.data)) ++ more)))) (by decide) (by decide) (by omega) h2
    have e3 := take_be (more := beFrom f.gsn 8 ++ (f.data ++ (laidS (crcS (headS f ++ f.data)) ++ more))) (by decide) (by decide) (by omega) h3
    have e4 := take_be (more := f.data ++ (laidS (crcS (headS f ++ f.data)) ++ more)) (by decide) (by decide) (by omega) h4
    obtain ⟨m1, m2⟩ := made_takes hr more
    have hc2 : ((f.data.length : Nat) : Int) = (c.toNat : Int) := by
      have b1 : (makeS f ++ more).take 1 = beFrom ((f.data.length : Nat) : Int) 1 := by rw [hf]; exact List.take_left' (beFrom_length _ _)
      have b2 : (makeS f ++ more).take 1 = [c] := by
        cases hm : (makeS f ++ more) with
        | nil => rw [hm] at hc; simp at hc
        | cons x t => rw [hm] at hc; simp at hc; rw [hc]; rfl
      have b3 := take_be (more := []) (by decide : 1 ≤ 1) (by decide) (by omega) h1
      rw [← b1, b2, List.append_nil, takeS_yes (by decide) (by decide) (by simp) (.inl (by decide))] at b3
      have b4 := congrArg (fun x => x.1) b3
      simp only [List.take] at b4
      rw [beVal_one] at b4
      exact b4.symm
    refine ⟨by rw [d5, e3], by rw [d13, e4], ?_, by rw [m1]; exact hc2⟩
    rw [m2]
    unfold fR
    rw [d1, d5, d13, e2, e3, e4, ← hc2]
    have := congrArg Fr.data m2
    unfold fO at this
    rw [m1] at this
    simp only at this
    rw [this]
  have dl : ((fR s c).data.length : Int) = (c.toNat : Int) := by
    show ((((s.take (21 + (c.toNat : Int)).toNat).drop 21).length : Nat) : Int) = _
    rw [List.length_drop, List.length_take]; omega
  refine ⟨?_, fun h => ⟨(key h).2.2.1, (key h).2.2.2⟩⟩
  apply Bool.eq_iff_iff.2
  rw [Bool.and_eq_true, Bool.and_eq_true, Bool.and_eq_true]
  constructor
  · intro h
    obtain ⟨k1, k2, k3, k4⟩ := key h
    obtain ⟨o1, o2, o3, o4⟩ := opens_made h
    refine ⟨⟨⟨k1, k2⟩, by rw [← k3]; exact o1⟩, decide_eq_true ?_⟩
    rw [dl, ← k3]
    have h' := h
    unfold opensB at h'
    rw [Bool.and_eq_true, Bool.and_eq_true, Bool.and_eq_true] at h'
    have h4 := of_decide_eq_true h'.2
    rw [h4, k4, Int.add_comm]
  · rintro ⟨⟨⟨k1, k2⟩, k3⟩, k4⟩
    have k4 := of_decide_eq_true k4
    exact opens_iff.2 ⟨fR s c, s.drop (25 + ((fR s c).data.length : Int)).toNat, k3, by rw [k4, List.take_append_drop]⟩
theorem ref_yes {s : List UInt8} {c : UInt8} (hc : s[0]? = some c) (h25 : 25 ≤ s.length) (hl : 25 + (c.toNat : Int) ≤ (s.length : Int)) (k1 : (takeS (s.drop 5) 8).2.2 = true) (k2 : (takeS (s.drop 13) 8).2.2 = true) (k3 : rightS (fR s c) = true)
    (k4 : makeS (fR s c) = s.take (25 + ((fR s c).data.length : Int)).toNat) : opensB s = true := by rw [(ref_opens hc h25 hl).1, k1, k2, k3, decide_eq_true k4]; rfl
theorem ref_no {s : List UInt8} {c : UInt8} (hc : s[0]? = some c) (h25 : 25 ≤ s.length) (hl : 25 + (c.toNat : Int) ≤ (s.length : Int)) (h : (takeS (s.drop 5) 8).2.2 = false ∨ (takeS (s.drop 13) 8).2.2 = false ∨ rightS (fR s c) = false ∨
    makeS (fR s c) ≠ s.take (25 + ((fR s c).data.length : Int)).toNat) : opensB s = false := by
  rw [(ref_opens hc h25 hl).1]
  rcases h with h | h | h | h
  · rw [h]; simp
  · rw [h]; simp
  · rw [h]; simp
  · rw [decide_eq_false h]; simp
theorem oF_no {s : List UInt8} (h : opensB s = false) : oF s = ⟨0, 0, 0, []⟩ ∧ oN s = 0 := by
  unfold oF oN; rw [h]; exact ⟨rfl, rfl⟩
theorem oN_yes {s : List UInt8} (h : opensB s = true) : oN s = 25 + ((oF s).data.length : Int) := by
  unfold oF oN; rw [if_pos h, if_pos h, (opens_made h).2.1, Int.add_comm]
theorem oF_le (s : List UInt8) : (oF s).data.length ≤ s.length := by
  unfold oF
  split
  · show ((s.take (21 + (takeS s 1).1).toNat).drop 21).length ≤ s.length
    rw [List.length_drop, List.length_take]; omega
  · exact Nat.zero_le _
theorem not_t {b : Bool} (h : (!b) = true) : b = false := by cases b <;> simp_all
theorem not_f {b : Bool} (h : (!b) = false) : b = true := by cases b <;> simp_all
theorem opens_yes {s : List UInt8} (h1 : (takeS s 1).2.2 = true) (h2 : (takeS s 1).1 + 25 ≤ (s.length : Int)) (h3 : rightS (fO s) = true) (h4 : makeS (fO s) = s.take ((takeS s 1).1 + 25).toNat) : opensB s = true := by
  unfold opensB; rw [h1, h3, decide_eq_true h2, decide_eq_true h4]; rfl
theorem opens_no1 {s : List UInt8} (h : (takeS s 1).2.2 = false) : opensB s = false := by unfold opensB; rw [h]; rfl
theorem opens_no2 {s : List UInt8} (h : (s.length : Int) < (takeS s 1).1 + 25) : opensB s = false := by
  unfold opensB; rw [decide_eq_false (show ¬ (takeS s 1).1 + 25 ≤ (s.length : Int) by omega)]; simp
theorem opens_no3 {s : List UInt8} (h : rightS (fO s) = false) : opensB s = false := by unfold opensB; rw [h]; simp
theorem opens_no4 {s : List UInt8} (h : makeS (fO s) ≠ s.take ((takeS s 1).1 + 25).toNat) : opensB s = false := by unfold opensB; rw [decide_eq_false h]; simp
theorem opens_short {s : List UInt8} (h : s.length < 25) : opensB s = false := opens_no2 (by have := take_one s; omega)
theorem take_one_at {s : List UInt8} {c : UInt8} (hc : s[0]? = some c) : (takeS s 1).1 = (c.toNat : Int) := by
  cases s with
  | nil => simp at hc
  | cons x t =>
    have e : x = c := by simpa using hc
    subst e
    rw [takeS_yes (by decide) (by decide) (by simp) (.inl (by decide))]
    exact beVal_one x
theorem opens_short2 {s : List UInt8} {c : UInt8} (hc : s[0]? = some c) (h : (s.length : Int) < 25 + (c.toNat : Int)) : opensB s = false := opens_no2 (by rw [take_one_at hc]; omega)
theorem rest_le1 {s : List UInt8} (h : s.length ≤ 9000000000000000000) : (takeS s 1).2.1.length ≤ 9223372036854775807 := by have := take_rest_le s 1; omega
theorem rest_le2 {s : List UInt8} (h : s.length ≤ 9000000000000000000) : (takeS (takeS s 1).2.1 4).2.1.length ≤ 9223372036854775807 := by have := take_rest_le s 1; have := take_rest_le (takeS s 1).2.1 4; omega
theorem rest_le3 {s : List UInt8} (h : s.length ≤ 9000000000000000000) : (takeS (takeS (takeS s 1).2.1 4).2.1 8).2.1.length ≤ 9223372036854775807 := by
  have := take_rest_le s 1; have := take_rest_le (takeS s 1).2.1 4; have := take_rest_le (takeS (takeS s 1).2.1 4).2.1 8; omega
end Go.Q
namespace Go.Q
theorem be1 (n : Int) : beFrom n 1 = [by8 n] := by simp [beFrom]
theorem put1 {x : Int} (h : 0 ≤ x ∧ x ≤ 255) : putS 1 [x] = beFrom x 1 := by
  rw [putS_yes (by decide) (by decide) (fun y hy => by rw [List.mem_singleton.1 hy]; exact fits_lit (b := 256) h.1 (by omega) (by decide) (by decide) (by omega))]; simp
theorem put8 {x : Int} (h : 0 ≤ x ∧ x ≤ 9223372036854775807) : putS 8 [x] = beFrom x 8 := by
  rw [putS_yes (by decide) (by decide) (fun y hy => by rw [List.mem_singleton.1 hy]; exact fits_lit (b := 9223372036854775808) h.1 (by omega) (by decide) (by decide) (by omega))]; simp
def shortB (s : Bs) : Bs := beFrom (s.length : Int) 1 ++ s
theorem shortB_len (s : Bs) : (shortB s).length = s.length + 1 := by unfold shortB; rw [List.length_append, beFrom_length]; omega
def cellB (c : Cel) : Bs := shortB c.1 ++ shortB c.2
def headB (no gsn : Int) (n : Nat) : Bs := beFrom no 1 ++ beFrom gsn 8 ++ beFrom (n : Int) 1
theorem headB_len (no gsn : Int) (n : Nat) : (headB no gsn n).length = 10 := by unfold headB; simp [beFrom_length]
def bodyB (no gsn : Int) (l : List Cel) : Bs := headB no gsn l.length ++ l.flatMap cellB
def fullB (no gsn : Int) (l : List Cel) : Bs := bodyB no gsn l ++ List.replicate (252 - (bodyB no gsn l).length) 0
def laidP (no gsn : Int) (l : List Cel) : Bs := if pageR no gsn l = true then sealS (fullB no gsn l) else []
theorem celOk_len {c : Cel} (h : celOk c = true) : c.1.length ≤ 8 ∧ c.2.length ≤ 16 := by
  unfold celOk keyR valR at h
  simp only [Bool.and_eq_true, decide_eq_true_eq] at h
  omega
theorem cellB_len {c : Cel} (h : celOk c = true) : (cellB c).length ≤ 26 := by
  have := celOk_len h
  unfold cellB; rw [List.length_append, shortB_len, shortB_len]; omega
theorem cells_len : ∀ {l : List Cel}, (∀ c ∈ l, celOk c = true) → (l.flatMap cellB).length ≤ 26 * l.length
  | [], _ => by simp
  | c :: t, h => by
    have h1 := cellB_len (h c (List.mem_cons_self ..))
    have h2 := cells_len fun a ha => h a (List.mem_cons_of_mem c ha)
    rw [List.flatMap_cons, List.length_append, List.length_cons]; omega
theorem bodyB_len {no gsn : Int} {l : List Cel} (h : pageR no gsn l = true) : (bodyB no gsn l).length ≤ 218 := by
  have h1 := cellsR_iff.1 (pageR_iff.1 h).2
  have h2 := cells_len h1.1
  unfold bodyB; rw [List.length_append, headB_len]; omega
theorem fullB_len {no gsn : Int} {l : List Cel} (h : pageR no gsn l = true) : (fullB no gsn l).length = 252 := by
  have := bodyB_len h
  unfold fullB; rw [List.length_append, List.length_replicate]; omega
theorem laidP_len {no gsn : Int} {l : List Cel} (h : pageR no gsn l = true) : (laidP no gsn l).length = 256 := by
  unfold laidP; rw [if_pos h, sealS, List.length_append, laidS_len, fullB_len h]
theorem laidP_no {no gsn : Int} {l : List Cel} (h : pageR no gsn l = false) : laidP no gsn l = [] := by
  unfold laidP; rw [if_neg (by rw [h]; decide)]
theorem laidP_le (no gsn : Int) (l : List Cel) : (laidP no gsn l).length ≤ 256 := by
  cases h : pageR no gsn l with
  | true => rw [laidP_len h]; exact Nat.le_refl _
  | false => rw [laidP_no h]; simp
/-! ### a text with its length ahead -/
def textS (s : Bs) : Bs × Bs × Bool := if (takeS s 1).2.2 = true ∧ (takeS s 1).1 ≤ ((takeS s 1).2.1.length : Int) then ((takeS s 1).2.1.take (takeS s 1).1.toNat, (takeS s 1).2.1.drop (takeS s 1).1.toNat, true) else ([], [], false)
theorem textS_short {k more : Bs} (h : k.length ≤ 255) : textS (shortB k ++ more) = (k, more, true) := by
  unfold textS shortB
  rw [List.append_assoc, take_be (by decide) (by decide) (by omega) (fits_lit (b := 256) (by omega) (by omega) (by decide) (by decide) (by omega))]
  rw [if_pos ⟨rfl, by simp only [List.length_append]; omega⟩]
  simp
theorem textS_le (s : Bs) : (textS s).1.length ≤ 255 ∧ (textS s).2.1.length ≤ s.length := by
  unfold textS
  split
  · have h1 := take_one s
    have h2 := take_rest_le s 1
    simp only [List.length_take, List.length_drop]
    omega
  · simp
/-- the cells, as page.Read takes them -/
def goP : Nat → Int → Bs → List Cel → Bool × List Cel
  | 0, _, _, acc => (true, acc)
  | f + 1, n, rest, acc => if 0 < n then
      (if (textS rest).2.2 = true then
        (if (textS (textS rest).2.1).2.2 = true then goP f (n - 1) (textS (textS rest).2.1).2.1 (acc ++ [((textS rest).1, (textS (textS rest).2.1).1)])
         else (false, acc ++ [((textS rest).1, (textS (textS rest).2.1).1)]))
       else (false, acc ++ [((textS rest).1, [])]))
    else (true, acc)
theorem goP_laid : ∀ (l : List Cel) (f : Nat) (more : Bs) (acc : List Cel), (∀ c ∈ l, celOk c = true) → l.length ≤ f → goP f (l.length : Int) (l.flatMap cellB ++ more) acc = (true, acc ++ l)
  | [], 0, _, _, _, _ => by simp [goP]
  | [], f + 1, _, _, _, _ => by rw [goP, if_neg (by simp)]; simp
  | c :: t, 0, _, _, _, h => by simp at h
  | c :: t, f + 1, more, acc, hc, hf => by
    have h1 := celOk_len (hc c (List.mem_cons_self ..))
    have e : (c :: t).flatMap cellB ++ more = shortB c.1 ++ (shortB c.2 ++ (t.flatMap cellB ++ more)) := by
      rw [List.flatMap_cons, cellB]; simp only [List.append_assoc]
    rw [goP, if_pos (by simp only [List.length_cons]; omega), e, textS_short (by omega)]
    simp only
    rw [textS_short (by omega)]
    simp only [if_true]
    rw [show (((c :: t).length : Nat) : Int) - 1 = (t.length : Int) by simp only [List.length_cons]; omega, goP_laid t f more _ (fun a ha => hc a (List.mem_cons_of_mem c ha)) (by simpa using hf)]
    simp
def goP0 (s : Bs) : Bool × List Cel := if (takeS (takeS s 1).2.1 8).2.2 = true then goP 8 (takeS (takeS (takeS s 1).2.1 8).2.1 1).1 (takeS (takeS (takeS s 1).2.1 8).2.1 1).2.1 [] else (false, [])
def readP (s : Bs) : Bool × Int × Int × List Cel :=
  if s.length = 256 ∧ (goP0 s).1 = true ∧ laidP (takeS s 1).1 (takeS (takeS s 1).2.1 8).1 (goP0 s).2 = s then (true, (takeS s 1).1, (takeS (takeS s 1).2.1 8).1, (goP0 s).2) else (false, 0, 0, [])
theorem readP_true {s : Bs} (h : (readP s).1 = true) : pageR (readP s).2.1 (readP s).2.2.1 (readP s).2.2.2 = true ∧ laidP (readP s).2.1 (readP s).2.2.1 (readP s).2.2.2 = s := by
  unfold readP at h ⊢
  split at h
  · rename_i g
    rw [if_pos g]
    refine ⟨?_, g.2.2⟩
    cases e : pageR (takeS s 1).1 (takeS (takeS s 1).2.1 8).1 (goP0 s).2 with
    | true => rfl
    | false => have := g.2.2; rw [laidP_no e] at this; have := g.1; rw [← ‹[] = s›] at this; simp at this
  · cases h
theorem laid_takes {no gsn : Int} {l : List Cel} (h : pageR no gsn l = true) : ∃ tail : Bs, laidP no gsn l = beFrom no 1 ++ (beFrom gsn 8 ++ (beFrom (l.length : Int) 1 ++ (l.flatMap cellB ++ tail))) := by
  refine ⟨List.replicate (252 - (bodyB no gsn l).length) 0 ++ laidS (crcS (fullB no gsn l)), ?_⟩
  unfold laidP
  rw [if_pos h, sealS]
  have e : fullB no gsn l = beFrom no 1 ++ (beFrom gsn 8 ++ (beFrom (l.length : Int) 1 ++ (l.flatMap cellB ++ List.replicate (252 - (bodyB no gsn l).length) 0))) := by
    have e2 : bodyB no gsn l = beFrom no 1 ++ (beFrom gsn 8 ++ (beFrom (l.length : Int) 1 ++ l.flatMap cellB)) := by unfold bodyB headB; simp only [List.append_assoc]
    have e3 : fullB no gsn l = bodyB no gsn l ++ List.replicate (252 - (bodyB no gsn l).length) 0 := rfl
    rw [e3]
    generalize List.replicate (252 - (bodyB no gsn l).length) (0 : UInt8) = z
    rw [e2]; simp only [List.append_assoc]
  generalize laidS (crcS (fullB no gsn l)) = y
  rw [e]
  simp only [List.append_assoc]
theorem readP_laid {no gsn : Int} {l : List Cel} (h : pageR no gsn l = true) : readP (laidP no gsn l) = (true, no, gsn, l) := by
  obtain ⟨tail, ht⟩ := laid_takes h
  have hp := pageR_iff.1 h
  have hc := cellsR_iff.1 hp.2
  have t1 : takeS (laidP no gsn l) 1 = (no, beFrom gsn 8 ++ (beFrom (l.length : Int) 1 ++ (l.flatMap cellB ++ tail)), true) := by
    rw [ht]; exact take_be (by decide) (by decide) (by omega) (fits_lit (b := 256) (by omega) (by omega) (by decide) (by decide) (by omega))
  have t2 : takeS (beFrom gsn 8 ++ (beFrom (l.length : Int) 1 ++ (l.flatMap cellB ++ tail))) 8 = (gsn, beFrom (l.length : Int) 1 ++ (l.flatMap cellB ++ tail), true) :=
    take_be (by decide) (by decide) (by omega) (fits_lit (b := 9223372036854775808) (by omega) (by omega) (by decide) (by decide) (by omega))
  have t3 : takeS (beFrom (l.length : Int) 1 ++ (l.flatMap cellB ++ tail)) 1 = ((l.length : Int), l.flatMap cellB ++ tail, true) :=
    take_be (by decide) (by decide) (by omega) (fits_lit (b := 256) (by omega) (by omega) (by decide) (by decide) (by omega))
  have hg : goP0 (laidP no gsn l) = (true, l) := by
    unfold goP0
    simp only [t1, t2, t3, if_true]
    rw [goP_laid l 8 tail [] hc.1 hc.2.2]; rfl
  unfold readP
  rw [hg, t1]
  simp only
  rw [t2]
  simp only
  rw [if_pos ⟨laidP_len h, trivial, trivial⟩]
/-! ### as the document takes them -/
def byteN (s : Bs) (i : Nat) : Nat := (s[i]?.getD 0).toNat
def goR (s : Bs) : Nat → Nat → List Cel → Bool × List Cel
  | 0, _, acc => (true, acc)
  | f + 1, at_, acc => if byteN s at_ ≤ 8 then
      (if byteN s (at_ + 1 + byteN s at_) ≤ 16 then
        goR s f (at_ + 2 + byteN s at_ + byteN s (at_ + 1 + byteN s at_)) (acc ++ [((s.take (at_ + 1 + byteN s at_)).drop (at_ + 1), (s.take (at_ + 2 + byteN s at_ + byteN s (at_ + 1 + byteN s at_))).drop (at_ + 2 + byteN s at_))])
       else (false, acc))
    else (false, acc)
theorem byte_at {pre t : Bs} {b : UInt8} : byteN (pre ++ b :: t) pre.length = b.toNat := by
  unfold byteN; rw [List.getElem?_append_right (Nat.le_refl _)]; simp
theorem by8_len {n : Nat} (h : n ≤ 255) : (by8 (n : Int)).toNat = n := by
  unfold by8; rw [UInt8.toNat_ofNat']; omega
theorem goR_laid : ∀ (l : List Cel) (pre more : Bs) (acc : List Cel), (∀ c ∈ l, celOk c = true) → goR (pre ++ (l.flatMap cellB ++ more)) l.length pre.length acc = (true, acc ++ l)
  | [], _, _, _, _ => by simp [goR]
  | c :: t, pre, more, acc, hc => by
    have h1 := celOk_len (hc c (List.mem_cons_self ..))
    have e : pre ++ ((c :: t).flatMap cellB ++ more) = pre ++ (by8 (c.1.length : Int) :: (c.1 ++ (by8 (c.2.length : Int) :: (c.2 ++ (t.flatMap cellB ++ more))))) := by
      rw [List.flatMap_cons, cellB, shortB, shortB, be1, be1]; simp only [List.append_assoc, List.cons_append, List.nil_append]
    have e2 : pre ++ ((c :: t).flatMap cellB ++ more) = (pre ++ by8 (c.1.length : Int) :: c.1) ++ (by8 (c.2.length : Int) :: (c.2 ++ (t.flatMap cellB ++ more))) := by rw [e]; simp
    have e3 : pre ++ ((c :: t).flatMap cellB ++ more) = (pre ++ cellB c) ++ (t.flatMap cellB ++ more) := by rw [List.flatMap_cons]; simp only [List.append_assoc]
    have b1 : byteN (pre ++ ((c :: t).flatMap cellB ++ more)) pre.length = c.1.length := by rw [e, byte_at, by8_len (by omega)]
    have l2 : (pre ++ by8 (c.1.length : Int) :: c.1).length = pre.length + 1 + c.1.length := by simp only [List.length_append, List.length_cons]; omega
    have b2 : byteN (pre ++ ((c :: t).flatMap cellB ++ more)) (pre.length + 1 + c.1.length) = c.2.length := by rw [e2, ← l2, byte_at, by8_len (by omega)]
    have l3 : (pre ++ cellB c).length = pre.length + 2 + c.1.length + c.2.length := by unfold cellB; simp only [List.length_append, shortB_len]; omega
    rw [List.length_cons, goR, b1, if_pos h1.1, b2, if_pos h1.2]
    have k1 : ((pre ++ ((c :: t).flatMap cellB ++ more)).take (pre.length + 1 + c.1.length)).drop (pre.length + 1) = c.1 := by
      rw [e2, ← l2, List.take_left' rfl, show pre ++ by8 (c.1.length : Int) :: c.1 = (pre ++ [by8 (c.1.length : Int)]) ++ c.1 by simp, show pre.length + 1 = (pre ++ [by8 (c.1.length : Int)]).length by simp, List.drop_left' rfl]
    have k2 : ((pre ++ ((c :: t).flatMap cellB ++ more)).take (pre.length + 2 + c.1.length + c.2.length)).drop (pre.length + 2 + c.1.length) = c.2 := by
      rw [e3, ← l3, List.take_left' rfl]
      rw [show pre ++ cellB c = (pre ++ shortB c.1 ++ beFrom (c.2.length : Int) 1) ++ c.2 by unfold cellB; rw [show shortB c.2 = beFrom (c.2.length : Int) 1 ++ c.2 from rfl]; simp only [List.append_assoc]]
      rw [show pre.length + 2 + c.1.length = (pre ++ shortB c.1 ++ beFrom (c.2.length : Int) 1).length by simp only [List.length_append, shortB_len, beFrom_length]; omega, List.drop_left' rfl]
    rw [k1, k2, e3, ← l3, goR_laid t (pre ++ cellB c) more _ (fun a ha => hc a (List.mem_cons_of_mem c ha))]
    simp
def goR0 (s : Bs) : Bool × List Cel := if (takeS (s.drop 1) 8).2.2 = true then goR s (min (byteN s 9) 8) 10 [] else (false, [])
def readR (s : Bs) : Bool × Int × Int × List Cel :=
  if s.length = 256 ∧ (goR0 s).1 = true ∧ pageR (byteN s 0) (takeS (s.drop 1) 8).1 (goR0 s).2 = true ∧ laidP (byteN s 0) (takeS (s.drop 1) 8).1 (goR0 s).2 = s then (true, (byteN s 0 : Int), (takeS (s.drop 1) 8).1, (goR0 s).2) else (false, 0, 0, [])
theorem readR_laid {no gsn : Int} {l : List Cel} (h : pageR no gsn l = true) : readR (laidP no gsn l) = (true, no, gsn, l) := by
  obtain ⟨tail, ht⟩ := laid_takes h
  have hp := pageR_iff.1 h
  have hc := cellsR_iff.1 hp.2
  obtain ⟨n0, hn0⟩ : ∃ n : Nat, no = (n : Int) := ⟨no.toNat, by omega⟩
  have b0 : byteN (laidP no gsn l) 0 = n0 := by
    rw [ht, be1]
    have := byte_at (pre := []) (b := by8 no) (t := beFrom gsn 8 ++ (beFrom (l.length : Int) 1 ++ (l.flatMap cellB ++ tail)))
    rw [hn0] at this ⊢
    rw [by8_len (by omega)] at this
    exact this
  have d1 : (laidP no gsn l).drop 1 = beFrom gsn 8 ++ (beFrom (l.length : Int) 1 ++ (l.flatMap cellB ++ tail)) := by rw [ht, be1]; rfl
  have t2 : takeS ((laidP no gsn l).drop 1) 8 = (gsn, beFrom (l.length : Int) 1 ++ (l.flatMap cellB ++ tail), true) := by
    rw [d1]; exact take_be (by decide) (by decide) (by omega) (fits_lit (b := 9223372036854775808) (by omega) (by omega) (by decide) (by decide) (by omega))
  have e9 : laidP no gsn l = (beFrom no 1 ++ beFrom gsn 8) ++ (by8 (l.length : Int) :: (l.flatMap cellB ++ tail)) := by rw [ht, be1 (l.length : Int)]; simp only [List.append_assoc, List.cons_append, List.nil_append]
  have b9 : byteN (laidP no gsn l) 9 = l.length := by
    have := byte_at (pre := beFrom no 1 ++ beFrom gsn 8) (b := by8 (l.length : Int)) (t := l.flatMap cellB ++ tail)
    rw [← e9, by8_len (by omega), List.length_append, beFrom_length, beFrom_length] at this
    exact this
  have hg : goR0 (laidP no gsn l) = (true, l) := by
    unfold goR0
    rw [t2, if_pos rfl, b9, Nat.min_eq_left (by omega)]
    have e10 : laidP no gsn l = (beFrom no 1 ++ beFrom gsn 8 ++ beFrom (l.length : Int) 1) ++ (l.flatMap cellB ++ tail) := by rw [ht]; simp only [List.append_assoc]
    have := goR_laid l (beFrom no 1 ++ beFrom gsn 8 ++ beFrom (l.length : Int) 1) tail [] hc.1
    rw [← e10] at this
    simpa [beFrom_length] using this
  unfold readR
  rw [hg, b0, t2, ← hn0]
  simp only
  rw [if_pos ⟨laidP_len h, trivial, h, trivial⟩]
theorem readR_true {s : Bs} (h : (readR s).1 = true) : pageR (readR s).2.1 (readR s).2.2.1 (readR s).2.2.2 = true ∧ laidP (readR s).2.1 (readR s).2.2.1 (readR s).2.2.2 = s := by
  unfold readR at h ⊢
  split at h
  · rename_i g; rw [if_pos g]; exact ⟨g.2.2.1, g.2.2.2⟩
  · cases h
theorem readP_false {s : Bs} (h : (readP s).1 = false) : readP s = (false, 0, 0, []) := by
  unfold readP at h ⊢
  split at h
  · cases h
  · rename_i g; rw [if_neg g]
theorem readR_false {s : Bs} (h : (readR s).1 = false) : readR s = (false, 0, 0, []) := by
  unfold readR at h ⊢
  split at h
  · cases h
  · rename_i g; rw [if_neg g]
/-- both are the page whose bytes these are -/
theorem read_eq (s : Bs) : readP s = readR s := by
  cases h : (readP s).1 with
  | true =>
    obtain ⟨h1, h2⟩ := readP_true h
    have e := readR_laid h1
    rw [h2] at e
    rw [e, ← h]
  | false =>
    cases g : (readR s).1 with
    | true =>
      obtain ⟨h1, h2⟩ := readR_true g
      have e := readP_laid h1
      rw [h2] at e
      rw [e] at h; cases h
    | false => rw [readP_false h, readR_false g]
theorem text_no {s : Bs} (h : (takeS s 1).2.2 = false ∨ ((takeS s 1).2.1.length : Int) < (takeS s 1).1) : textS s = ([], [], false) := by
  unfold textS; rw [if_neg]; rintro ⟨g1, g2⟩
  rcases h with h | h
  · rw [g1] at h; cases h
  · omega
theorem text_yes {s : Bs} (h1 : (takeS s 1).2.2 = true) (h2 : ¬ ((takeS s 1).2.1.length : Int) < (takeS s 1).1) : textS s = ((takeS s 1).2.1.take (takeS s 1).1.toNat, (takeS s 1).2.1.drop (takeS s 1).1.toNat, true) := by
  unfold textS; rw [if_pos ⟨h1, by omega⟩]
/-- where page.Read's loop stands -/
def goS (ok : Bool) (n : Int) (rest : Bs) (acc : List Cel) : Bool × List Cel := if ok = true then goP (8 - acc.length) n rest acc else (false, acc)
theorem goS_step {n : Int} {rest r3 : Bs} {acc : List Cel} {X : Bool × List Cel} {ok : Bool} (h : X = goS ok n rest acc) (hok : ok = true) (hn : 0 < n) (ha : acc.length < 8) :
    X = if (textS rest).2.2 = true then goS (textS (textS rest).2.1).2.2 (n - 1) (textS (textS rest).2.1).2.1 (acc ++ [((textS rest).1, (textS (textS rest).2.1).1)]) else goS false (n - 1) r3 (acc ++ [((textS rest).1, [])]) := by
  subst hok
  obtain ⟨f, hf⟩ : ∃ f, 8 - acc.length = f + 1 := ⟨7 - acc.length, by omega⟩
  rw [h, goS, if_pos rfl, hf, goP, if_pos hn]
  have hl : ∀ c : Cel, 8 - (acc ++ [c]).length = f := fun c => by simp only [List.length_append, List.length_cons, List.length_nil]; omega
  by_cases g1 : (textS rest).2.2 = true
  · rw [if_pos g1, if_pos g1]
    unfold goS
    rw [hl]
  · rw [if_neg g1, if_neg g1]
    simp [goS]
theorem goS_end {n : Int} {rest : Bs} {acc : List Cel} {X : Bool × List Cel} {ok : Bool} (h : X = goS ok n rest acc) (he : ok = false ∨ ¬ 0 < n ∨ ¬ acc.length < 8) : X = (ok, acc) := by
  rw [h]; unfold goS
  cases ok with
  | false => simp
  | true =>
    rw [if_pos rfl]
    rcases he with he | he | he
    · cases he
    · cases 8 - acc.length with
      | zero => rfl
      | succ f => rw [goP, if_neg he]
    · rw [show 8 - acc.length = 0 by omega]; rfl
theorem goS_start (s : Bs) : goP0 s = goS (takeS (takeS s 1).2.1 8).2.2 (takeS (takeS (takeS s 1).2.1 8).2.1 1).1 (takeS (takeS (takeS s 1).2.1 8).2.1 1).2.1 [] := rfl
theorem readP_yes {s : Bs} {l : List Cel} (h : s.length = 256) (hg : goP0 s = (true, l)) (hl : laidP (takeS s 1).1 (takeS (takeS s 1).2.1 8).1 l = s) : readP s = (true, (takeS s 1).1, (takeS (takeS s 1).2.1 8).1, l) := by
  unfold readP; rw [hg, if_pos ⟨h, rfl, hl⟩]
theorem readP_no {s : Bs} (h : ¬ s.length = 256 ∨ (goP0 s).1 = false ∨ laidP (takeS s 1).1 (takeS (takeS s 1).2.1 8).1 (goP0 s).2 ≠ s) : readP s = (false, 0, 0, []) := by
  unfold readP; rw [if_neg]; rintro ⟨g1, g2, g3⟩
  rcases h with h | h | h
  · exact h g1
  · rw [g2] at h; cases h
  · exact h g3
/-! ### the document's bytes -/
theorem head_ref (no gsn : Int) (n : Nat) : [by8 no] ++ beFrom gsn 8 ++ [by8 (n : Int)] = headB no gsn n := by unfold headB; rw [be1, be1]
theorem cell_ref {t : Bs} {l : List Cel} {k : Nat} {c : Cel} {h0 : Bs} (h : t = h0 ++ (l.take k).flatMap cellB) (hx : l[k]? = some c) : t ++ [by8 (c.1.length : Int)] ++ c.1 ++ [by8 (c.2.length : Int)] ++ c.2 = h0 ++ (l.take (k + 1)).flatMap cellB := by
  rw [take_succ_of hx, List.flatMap_append, h]
  simp [cellB, shortB, be1]
theorem full_ref {no gsn : Int} {l : List Cel} {u : Bs} {j : Nat} (h : pageR no gsn l = true) (hu : u = bodyB no gsn l ++ List.replicate j 0) (hl : u.length = 252) : u ++ laidS (crcS u) = laidP no gsn l := by
  have e : u = fullB no gsn l := by
    rw [hu, List.length_append, List.length_replicate] at hl
    rw [hu]; unfold fullB; rw [show j = 252 - (bodyB no gsn l).length by omega]
  unfold laidP; rw [if_pos h, sealS, e]
theorem byteN_of {s : Bs} {i : Nat} {c : UInt8} (h : s[i]? = some c) : byteN s i = c.toNat := by unfold byteN; rw [h]; rfl
/-- where the document's loop stands -/
def grS (s : Bs) (ok : Bool) (f at_ : Nat) (acc : List Cel) : Bool × List Cel := if ok = true then goR s f at_ acc else (false, acc)
theorem grS_no1 {s : Bs} {ok : Bool} {f at_ : Nat} {acc : List Cel} {X : Bool × List Cel} {c : UInt8} (h : X = grS s ok f at_ acc) (hok : ok = true) (hf : 0 < f) (hc : s[at_]? = some c) (h8 : ¬ (c.toNat : Int) ≤ 8) : X = (false, acc) := by
  obtain ⟨f, rfl⟩ : ∃ g, f = g + 1 := ⟨f - 1, by omega⟩
  rw [h, grS, if_pos hok, goR, byteN_of hc, if_neg (by omega)]
theorem grS_no2 {s : Bs} {ok : Bool} {f at_ a : Nat} {acc : List Cel} {X : Bool × List Cel} {c d : UInt8} (h : X = grS s ok f at_ acc) (hok : ok = true) (hf : 0 < f) (hc : s[at_]? = some c) (h8 : (c.toNat : Int) ≤ 8) (hd : s[a]? = some d) (ha : a = at_ + 1 + c.toNat) (h16 : ¬ (d.toNat : Int) ≤ 16) : X = (false, acc) := by
  obtain ⟨f, rfl⟩ : ∃ g, f = g + 1 := ⟨f - 1, by omega⟩
  subst ha
  rw [h, grS, if_pos hok, goR, byteN_of hc, if_pos (by omega), byteN_of hd, if_neg (by omega)]
theorem grS_go {s : Bs} {ok : Bool} {f f2 at_ a a1 a2 a3 a4 b : Nat} {acc : List Cel} {X : Bool × List Cel} {c d : UInt8} (h : X = grS s ok f at_ acc) (hok : ok = true) (hf : f = f2 + 1) (hc : s[at_]? = some c) (h8 : (c.toNat : Int) ≤ 8) (hd : s[a]? = some d) (ha : a = at_ + 1 + c.toNat) (h16 : (d.toNat : Int) ≤ 16)
    (e1 : a1 = at_ + 1) (e2 : a2 = at_ + 1 + c.toNat) (e3 : a3 = at_ + 2 + c.toNat) (e4 : a4 = at_ + 2 + c.toNat + d.toNat) (eb : b = at_ + 2 + c.toNat + d.toNat) {ok2 : Bool} (hok2 : ok2 = true) : X = grS s ok2 f2 b (acc ++ [((s.take a2).drop a1, (s.take a4).drop a3)]) := by
  subst hf ha e1 e2 e3 e4 eb hok2
  rw [h, grS, if_pos hok, goR, byteN_of hc, if_pos (by omega), byteN_of hd, if_pos (by omega), grS, if_pos rfl]
theorem grS_end {s : Bs} {ok : Bool} {f at_ : Nat} {acc : List Cel} {X : Bool × List Cel} (h : X = grS s ok f at_ acc) (he : ok = false ∨ f = 0) : X = (ok, acc) := by
  rw [h]; unfold grS
  cases ok with
  | false => simp
  | true => rcases he with e | e
            · cases e
            · rw [if_pos rfl, e]; rfl
theorem goR0_start {s : Bs} {c : UInt8} (hc : s[9]? = some c) : goR0 s = grS s (takeS (s.drop 1) 8).2.2 (min c.toNat 8 - 0) 10 [] := by
  unfold goR0 grS; rw [byteN_of hc]; rfl
theorem readR_yes {s : Bs} {l : List Cel} {c : UInt8} (h : s.length = 256) (hc : s[0]? = some c) (hg : goR0 s = (true, l)) (hr : pageR (c.toNat : Int) (takeS (s.drop 1) 8).1 l = true) (hl : laidP (c.toNat : Int) (takeS (s.drop 1) 8).1 l = s) : readR s = (true, (c.toNat : Int), (takeS (s.drop 1) 8).1, l) := by
  unfold readR; rw [hg, byteN_of hc, if_pos ⟨h, rfl, hr, hl⟩]
theorem readR_no {s : Bs} {c : UInt8} {g : Bool × List Cel} (hg : goR0 s = g) (hc : s[0]? = some c) (h : g.1 = false ∨ pageR (c.toNat : Int) (takeS (s.drop 1) 8).1 g.2 = false ∨ laidP (c.toNat : Int) (takeS (s.drop 1) 8).1 g.2 ≠ s) : readR s = (false, 0, 0, []) := by
  unfold readR; rw [hg, byteN_of hc, if_neg]; rintro ⟨_, g1, g2, g3⟩
  rcases h with h | h | h
  · rw [g1] at h; cases h
  · rw [g2] at h; cases h
  · exact h g3
theorem readR_short {s : Bs} (h : ¬ s.length = 256) : readR s = (false, 0, 0, []) := by
  unfold readR; rw [if_neg (fun g => h g.1)]
end Go.Q
namespace Go.Q
theorem cell_prog {t : Bs} {l : List Cel} {k : Nat} {c : Cel} {h0 : Bs} (h : t = h0 ++ (l.take k).flatMap cellB) (hx : l[k]? = some c) : t ++ (shortB c.1 ++ shortB c.2) = h0 ++ (l.take (k + 1)).flatMap cellB := by
  rw [take_succ_of hx, List.flatMap_append, h]
  simp [cellB]
end Go.Q
namespace Go.Q
open Go.Proofs
set_option linter.unusedVariables false
set_option maxRecDepth 100000
attribute [local irreducible] wpList OK Code.wp
set_option maxHeartbeats 4000000 in
theorem short_c {E w : World} {R : List Hp} {s : Bs}  (hH : Has E w [R]) (hl : s.length ≤ 255) :
    Calls Tryd.prog 54 #[(S s)] w fun e w' => e = .returned (S (shortB s)) ∧ Has E w' [R] := by
  refine c_enter (args := [(S s)]) Tryd.func54 rfl Tryd.ntmps54 (by simp) ?_
  refine wp_seq_k fun K1 hK1 => ?_
  refine c_region ?_
  refine s_op (o_assign (v := (S ([] : List UInt8))) rfl ?_)
  refine s_nil ?_
  refine t_norm (hK1 _ _ ?_)
  refine wp_seq_k fun K2 hK2 => ?_
  refine c_region ?_
  refine s_op (o_move (v := (S s)) rfl ?_)
  refine s_op (o_slen Tryd.underlying9 rfl ?_)
  refine s_op (o_buildSlice (ps := #[(0, (.int .i64 (s.length : Int)))]) (cells := #[(.int .i64 (s.length : Int))]) Tryd.underlying56 ti3 (by decide) (parts1 rfl) (by kernel_rfl) hH fun b3 w4 hH5 => ?_)
  refine s_op (o_callf (vs := #[(.int .i64 1), (.slice (some ⟨b3, 0, none⟩) 1 1)]) ca53 rfl (args2 rfl rfl) (put_c hH5.all 1 (l := [(s.length : Int)]) ((sl_lit (f := iV) (l := [(s.length : Int)]) rfl rfl (by simp)).mono (seg_sub 0 rfl)) (by simp)) ?_)
  rintro _ w8 ⟨rfl, hX6⟩
  refine ⟨_, rfl, ?_⟩
  have hH7 := hX6.of_all
  refine s_op (o_move (v := (S s)) rfl ?_)
  refine s_op (o_sadd rfl rfl (by rw [put1 (by omega), beFrom_length]; omega) ?_)
  refine s_op (o_assign (v := (S ((putS 1 [(s.length : Int)]) ++ s))) rfl ?_)
  refine s_nil ?_
  refine t_norm (hK2 _ _ ?_)
  refine wp_ret ?_
  refine c_ret1 Tryd.results54  (v := (S ((putS 1 [(s.length : Int)]) ++ s))) rfl ?_
  have q9 : (shortB s) = (putS 1 [(s.length : Int)]) ++ s := by unfold shortB; rw [put1 (by omega)]
  have hH10 : Has E w8 [R] := (hH7.front 1 rfl).first 1 rfl
  exact ⟨by rw [q9], hH10⟩
set_option maxHeartbeats 4000000 in
theorem plaid_c {E w : World} {R : List Hp} {no : Int} {gsn : Int} {v_l : Value} {l : List Cel}  (hH : Has E w [R]) (h_l : Sl R 2 v_l l.length (l.flatMap ceC)) (hg : CellsAt R 0 0 nibV) :
    Calls Tryd.prog 21 #[(.agg #[(.int .i64 no), (.int .i64 gsn), v_l])] w fun e w' => e = .returned (S (laidP no gsn l)) ∧ Has E w' [R] := by
  have hn_ := h_l.le
  refine c_enter (args := [(.agg #[(.int .i64 no), (.int .i64 gsn), v_l])]) Tryd.func21 rfl Tryd.ntmps21 (by simp) ?_
  refine wp_seq_k fun K1 hK1 => ?_
  refine c_region ?_
  refine s_op (o_box (cs := #[(.int .i64 no), (.int .i64 gsn), v_l]) rfl rfl hH fun b2 w3 hH4 => ?_)
  refine s_op (o_assign (v := (S ([] : List UInt8))) rfl ?_)
  refine s_nil ?_
  refine t_norm (hK1 _ _ ?_)
  refine wp_seq_k fun K5 hK5 => ?_
  refine wp_seq_k fun K6 hK6 => ?_
  refine c_region ?_
  refine s_op (o_loadN (cs := [(.int .i64 no), (.int .i64 gsn), v_l]) Tryd.underlying24 rfl ti24 rfl hH4 (seg_sub 0 rfl) (CellsAt.one rfl) ?_)
  refine s_op (o_callf (vs := #[(.agg #[(.int .i64 no), (.int .i64 gsn), v_l])]) ca10 rfl (args1 rfl) (pright_c (no := no) (gsn := gsn) (l := l) hH4.all (h_l.mono (seg_sub 1 rfl))) ?_)
  rintro _ w9 ⟨rfl, hX7⟩
  refine ⟨_, rfl, ?_⟩
  have hH8 := hX7.of_all
  refine s_op (o_not rfl ?_)
  refine s_nil ?_
  refine t_norm (hK6 _ _ ?_)
  refine c_condb rfl (fun h10 => ?_) (fun h10 => ?_)
  · -- !(pageR no gsn l)
    have h10_n : (pageR no gsn l) = false := by simpa using h10
    refine wp_seq_k fun K11 hK11 => ?_
    refine c_region ?_
    refine s_op (o_assign (v := (S ([] : List UInt8))) rfl ?_)
    refine s_nil ?_
    refine t_norm (hK11 _ _ ?_)
    refine wp_ret ?_
    refine t_ret (c_ret1 Tryd.results21  (v := (S ([] : List UInt8))) rfl ?_)
    have hE_ := laidP_no (no := no) (gsn := gsn) (l := l) (by first | (simpa using h10) | (simpa using h10_n))
    have q12 : (laidP no gsn l) = ([] : List UInt8) := by exact hE_
    have hH13 : Has E w9 [R] := (hH8.front 1 rfl).first 1 rfl
    exact ⟨by rw [q12], hH13⟩
  · -- not: !(pageR no gsn l)
    have h10_n : (pageR no gsn l) = true := by simpa using h10
    have hR_ : pageR no gsn l = true := by simpa using h10
    have hP_ := pageR_iff.1 hR_
    have hCe_ := cellsR_iff.1 hP_.2
    have hB_ := bodyB_len hR_
    have hu_ : putS 1 [no] ++ putS 8 [gsn] ++ putS 1 [((l.length : Nat) : Int)] = headB no gsn l.length := by rw [put1 (by omega), put8 (by omega), put1 (by omega)]; rfl
    refine wp_skip ?_
    refine t_norm (hK5 _ _ ?_)
    refine wp_seq_k fun K14 hK14 => ?_
    refine c_region ?_
    refine s_op (o_alloc (cs := #[(.pointer none), (.slice none 0 0)]) ti90 rfl hH8 fun b15 w16 hH17 => ?_)
    refine s_nil ?_
    refine t_norm (hK14 _ _ ?_)
    refine wp_seq_k fun K18 hK18 => ?_
    refine c_flow4 [[Hp.one b15 (.cells #[(.pointer none), (.slice none 0 0)] 90 (0, 0))], [Hp.one b2 (.cells #[(.int .i64 no), (.int .i64 gsn), v_l] 24 (0, 0))], R] (fun i_ => match i_ with | _ => []) (fun i_ v_ h_ m_ => match i_ with | 0 => v_ = (.pointer (some ⟨b2, 0, none⟩)) ∧ h_ = [] | 1 => v_ = (.int .i64 no) ∧ h_ = [] | 2 => ∃ (b19 : Nat), v_ = (.slice (some ⟨b19, 0, none⟩) 1 1) ∧ h_ = [Hp.one b19 (.cells #[(.int .i64 no)] 3 (0, 0))] | 3 => v_ = (S (putS 1 [no])) ∧ h_ = [] | 4 => v_ = (.pointer (some ⟨b2, 1, none⟩)) ∧ h_ = [] | 5 => v_ = (.int .i64 gsn) ∧ h_ = [] | 6 => ∃ (b25 : Nat), v_ = (.slice (some ⟨b25, 0, none⟩) 1 1) ∧ h_ = [Hp.one b25 (.cells #[(.int .i64 gsn)] 3 (0, 0))] | 7 => v_ = (S (putS 8 [gsn])) ∧ h_ = [] | 8 => v_ = (S ((putS 1 [no]) ++ (putS 8 [gsn]))) ∧ h_ = [] | 9 => v_ = (.pointer (some ⟨b2, 2, none⟩)) ∧ h_ = [] | 10 => v_ = v_l ∧ h_ = [] | 11 => v_ = (.int .i64 ((l.length : Nat) : Int)) ∧ h_ = [] | 12 => ∃ (b31 : Nat), v_ = (.slice (some ⟨b31, 0, none⟩) 1 1) ∧ h_ = [Hp.one b31 (.cells #[(.int .i64 ((l.length : Nat) : Int))] 3 (0, 0))] | 13 => v_ = (S (putS 1 [((l.length : Nat) : Int)])) ∧ h_ = [] | _ => True) mixed 14 (by kernel_rfl) (by decide) (by kernel_rfl) (flow_has (cs := []) hH17 rfl) ?_ ?_
    · intro i_ o_ him_ ho_ r' w' G hs_ ht
      match i_, ho_, him_ with
      | 0, ho_, him_ =>
        obtain rfl := Option.some.inj ho_
        have e1 : r' 1 = (.pointer (some ⟨b2, 0, none⟩)) := ht.was 1 (by kernel_rfl)
        have hG := ht.has.drop
        refine GOK.free rfl ?_
        refine o_fieldAddr (k := 0) (fun _ => by kernel_rfl) e1 ?_
        exact ⟨_, ⟨rfl, rfl⟩, hG⟩
      | 1, ho_, him_ =>
        obtain rfl := Option.some.inj ho_
        obtain ⟨e9, eh0⟩ := (ht.done 0 _ rfl rfl).1
        have hG := ht.has.drop
        refine GOK.free rfl ?_
        refine o_load1 (v := (.int .i64 no)) Tryd.underlying3 rfl e9 hG (ht.fr [Hp.one b2 (.cells #[(.int .i64 no), (.int .i64 gsn), v_l] 24 (0, 0))] (by simp)) (CellsAt.one rfl) ?_
        exact ⟨_, ⟨rfl, rfl⟩, hG⟩
      | 2, ho_, him_ =>
        obtain rfl := Option.some.inj ho_
        obtain ⟨e10, eh1⟩ := (ht.done 1 _ rfl rfl).1
        have hG := ht.has.drop
        refine GOK.free rfl ?_
        refine o_buildSlice (ps := #[(0, (.int .i64 no))]) (cells := #[(.int .i64 no)]) Tryd.underlying56 ti3 (by decide) (parts1 e10) (by kernel_rfl) hG fun b19 w20 hH21 => ?_
        exact ⟨_, ⟨b19, rfl, rfl⟩, hH21⟩
      | 3, ho_, him_ =>
        obtain rfl := Option.some.inj ho_
        obtain ⟨b19, e11, eh2⟩ := (ht.done 2 _ rfl rfl).1
        have hG := ht.has.drop
        refine GOK.free rfl ?_
        refine o_callf (vs := #[(.int .i64 1), (.slice (some ⟨b19, 0, none⟩) 1 1)]) ca53 rfl (args2 rfl e11) (put_c hG.all 1 (l := [no]) ((sl_lit (f := iV) (l := [no]) rfl rfl (by simp)).mono (eh2 ▸ (ht.done 2 _ rfl rfl).2)) (by simp)) ?_
        rintro _ w24 ⟨rfl, hX22⟩
        refine ⟨_, rfl, ?_⟩
        have hH23 := hX22.of_all
        exact ⟨_, ⟨rfl, rfl⟩, hH23⟩
      | 4, ho_, him_ =>
        obtain rfl := Option.some.inj ho_
        have e1 : r' 1 = (.pointer (some ⟨b2, 0, none⟩)) := ht.was 1 (by kernel_rfl)
        have hG := ht.has.drop
        refine GOK.free rfl ?_
        refine o_fieldAddr (k := 1) (fun _ => by kernel_rfl) e1 ?_
        exact ⟨_, ⟨rfl, rfl⟩, hG⟩
      | 5, ho_, him_ =>
        obtain rfl := Option.some.inj ho_
        obtain ⟨e13, eh4⟩ := (ht.done 4 _ rfl rfl).1
        have hG := ht.has.drop
        refine GOK.free rfl ?_
        refine o_load1 (v := (.int .i64 gsn)) Tryd.underlying3 rfl e13 hG (ht.fr [Hp.one b2 (.cells #[(.int .i64 no), (.int .i64 gsn), v_l] 24 (0, 0))] (by simp)) (CellsAt.one rfl) ?_
        exact ⟨_, ⟨rfl, rfl⟩, hG⟩
      | 6, ho_, him_ =>
        obtain rfl := Option.some.inj ho_
        obtain ⟨e14, eh5⟩ := (ht.done 5 _ rfl rfl).1
        have hG := ht.has.drop
        refine GOK.free rfl ?_
        refine o_buildSlice (ps := #[(0, (.int .i64 gsn))]) (cells := #[(.int .i64 gsn)]) Tryd.underlying56 ti3 (by decide) (parts1 e14) (by kernel_rfl) hG fun b25 w26 hH27 => ?_
        exact ⟨_, ⟨b25, rfl, rfl⟩, hH27⟩
      | 7, ho_, him_ =>
        obtain rfl := Option.some.inj ho_
        obtain ⟨b19, e11, eh2⟩ := (ht.done 2 _ rfl rfl).1
        obtain ⟨b25, e15, eh6⟩ := (ht.done 6 _ rfl rfl).1
        have hG := ht.has.drop
        refine GOK.free rfl ?_
        refine o_callf (vs := #[(.int .i64 8), (.slice (some ⟨b25, 0, none⟩) 1 1)]) ca53 rfl (args2 rfl e15) (put_c hG.all 8 (l := [gsn]) ((sl_lit (f := iV) (l := [gsn]) rfl rfl (by simp)).mono (eh6 ▸ (ht.done 6 _ rfl rfl).2)) (by simp)) ?_
        rintro _ w30 ⟨rfl, hX28⟩
        refine ⟨_, rfl, ?_⟩
        have hH29 := hX28.of_all
        exact ⟨_, ⟨rfl, rfl⟩, hH29⟩
      | 8, ho_, him_ =>
        obtain rfl := Option.some.inj ho_
        obtain ⟨b19, e11, eh2⟩ := (ht.done 2 _ rfl rfl).1
        obtain ⟨e12, eh3⟩ := (ht.done 3 _ rfl rfl).1
        obtain ⟨b25, e15, eh6⟩ := (ht.done 6 _ rfl rfl).1
        obtain ⟨e16, eh7⟩ := (ht.done 7 _ rfl rfl).1
        have hG := ht.has.drop
        refine GOK.free rfl ?_
        refine o_sadd e12 e16 (by first | (rw [put1 (by omega), put8 (by omega)]; simp only [beFrom_length, List.length_append]; omega) | (rw [put1 (by omega), put8 (by omega), put1 (by omega)]; simp only [beFrom_length, List.length_append]; omega) | (simp only [List.length_append, shortB_len]; omega)) ?_
        exact ⟨_, ⟨rfl, rfl⟩, hG⟩
      | 9, ho_, him_ =>
        obtain rfl := Option.some.inj ho_
        have e1 : r' 1 = (.pointer (some ⟨b2, 0, none⟩)) := ht.was 1 (by kernel_rfl)
        have hG := ht.has.drop
        refine GOK.free rfl ?_
        refine o_fieldAddr (k := 2) (fun _ => by kernel_rfl) e1 ?_
        exact ⟨_, ⟨rfl, rfl⟩, hG⟩
      | 10, ho_, him_ =>
        obtain rfl := Option.some.inj ho_
        obtain ⟨e18, eh9⟩ := (ht.done 9 _ rfl rfl).1
        have hG := ht.has.drop
        refine GOK.free rfl ?_
        refine o_load1 (v := v_l) Tryd.underlying22 rfl e18 hG (ht.fr [Hp.one b2 (.cells #[(.int .i64 no), (.int .i64 gsn), v_l] 24 (0, 0))] (by simp)) (CellsAt.one rfl) ?_
        exact ⟨_, ⟨rfl, rfl⟩, hG⟩
      | 11, ho_, him_ =>
        obtain rfl := Option.some.inj ho_
        obtain ⟨e19, eh10⟩ := (ht.done 10 _ rfl rfl).1
        have hG := ht.has.drop
        refine GOK.free rfl ?_
        refine o_lenS Tryd.underlying22 e19 h_l ?_
        exact ⟨_, ⟨rfl, rfl⟩, hG⟩
      | 12, ho_, him_ =>
        obtain rfl := Option.some.inj ho_
        obtain ⟨e20, eh11⟩ := (ht.done 11 _ rfl rfl).1
        have hG := ht.has.drop
        refine GOK.free rfl ?_
        refine o_buildSlice (ps := #[(0, (.int .i64 ((l.length : Nat) : Int)))]) (cells := #[(.int .i64 ((l.length : Nat) : Int))]) Tryd.underlying56 ti3 (by decide) (parts1 e20) (by kernel_rfl) hG fun b31 w32 hH33 => ?_
        exact ⟨_, ⟨b31, rfl, rfl⟩, hH33⟩
      | 13, ho_, him_ =>
        obtain rfl := Option.some.inj ho_
        obtain ⟨b19, e11, eh2⟩ := (ht.done 2 _ rfl rfl).1
        obtain ⟨b25, e15, eh6⟩ := (ht.done 6 _ rfl rfl).1
        obtain ⟨b31, e21, eh12⟩ := (ht.done 12 _ rfl rfl).1
        have hG := ht.has.drop
        refine GOK.free rfl ?_
        refine o_callf (vs := #[(.int .i64 1), (.slice (some ⟨b31, 0, none⟩) 1 1)]) ca53 rfl (args2 rfl e21) (put_c hG.all 1 (l := [((l.length : Nat) : Int)]) ((sl_lit (f := iV) (l := [((l.length : Nat) : Int)]) rfl rfl (by simp)).mono (eh12 ▸ (ht.done 12 _ rfl rfl).2)) (by simp)) ?_
        rintro _ w36 ⟨rfl, hX34⟩
        refine ⟨_, rfl, ?_⟩
        have hH35 := hX34.of_all
        exact ⟨_, ⟨rfl, rfl⟩, hH35⟩
      | i_ + 14, ho_, him_ => exact absurd him_ (by omega)
    · intro vs37 hs38 w39 hT40 hC_ hH41
      obtain ⟨e0_, eh0_⟩ := hT40 0 _ (by decide) rfl
      obtain ⟨e1_, eh1_⟩ := hT40 1 _ (by decide) rfl
      obtain ⟨b19, e2_, eh2_⟩ := hT40 2 _ (by decide) rfl
      obtain ⟨e3_, eh3_⟩ := hT40 3 _ (by decide) rfl
      obtain ⟨e4_, eh4_⟩ := hT40 4 _ (by decide) rfl
      obtain ⟨e5_, eh5_⟩ := hT40 5 _ (by decide) rfl
      obtain ⟨b25, e6_, eh6_⟩ := hT40 6 _ (by decide) rfl
      obtain ⟨e7_, eh7_⟩ := hT40 7 _ (by decide) rfl
      obtain ⟨e8_, eh8_⟩ := hT40 8 _ (by decide) rfl
      obtain ⟨e9_, eh9_⟩ := hT40 9 _ (by decide) rfl
      obtain ⟨e10_, eh10_⟩ := hT40 10 _ (by decide) rfl
      obtain ⟨e11_, eh11_⟩ := hT40 11 _ (by decide) rfl
      obtain ⟨b31, e12_, eh12_⟩ := hT40 12 _ (by decide) rfl
      obtain ⟨e13_, eh13_⟩ := hT40 13 _ (by decide) rfl
      have hH42 : Has E w39 ([[Hp.one b15 (.cells #[(.pointer none), (.slice none 0 0)] 90 (0, 0))], [Hp.one b2 (.cells #[(.int .i64 no), (.int .i64 gsn), v_l] 24 (0, 0))], R] ++ [[Hp.one b19 (.cells #[(.int .i64 no)] 3 (0, 0))], [Hp.one b25 (.cells #[(.int .i64 gsn)] 3 (0, 0))], [Hp.one b31 (.cells #[(.int .i64 ((l.length : Nat) : Int))] 3 (0, 0))]]) := flow_back (cs := [[Hp.one b19 (.cells #[(.int .i64 no)] 3 (0, 0))], [Hp.one b25 (.cells #[(.int .i64 gsn)] 3 (0, 0))], [Hp.one b31 (.cells #[(.int .i64 ((l.length : Nat) : Int))] 3 (0, 0))]]) hH41 (by show (hs38 0 ++ (hs38 1 ++ (hs38 2 ++ (hs38 3 ++ (hs38 4 ++ (hs38 5 ++ (hs38 6 ++ (hs38 7 ++ (hs38 8 ++ (hs38 9 ++ (hs38 10 ++ (hs38 11 ++ (hs38 12 ++ (hs38 13 ++ (hs38 14 ++ (hs38 15 ++ [])))))))))))))))) = _; rw [eh0_, eh1_, eh2_, eh3_, eh4_, eh5_, eh6_, eh7_, eh8_, eh9_, eh10_, eh11_, eh12_, eh13_, hC_ 14 (by decide) (by decide), hC_ 15 (by decide) (by decide)]; rfl)
      generalize hr44 : puts vs37 _ 0 _ = r43
      have e45_0 : r43 0 = (.agg #[(.int .i64 no), (.int .i64 gsn), v_l]) := by rw [← hr44]; exact rfl
      have e45_1 : r43 1 = (.pointer (some ⟨b2, 0, none⟩)) := by rw [← hr44]; exact rfl
      have e45_2 : r43 2 = (S ([] : List UInt8)) := by rw [← hr44]; exact rfl
      have e45_3 : r43 3 = (.pointer (some ⟨b15, 0, none⟩)) := by rw [← hr44]; exact rfl
      have e45_8 : r43 8 = (.bool (!(pageR no gsn l))) := by rw [← hr44]; exact rfl
      have e45_17 : r43 17 = (S ((putS 1 [no]) ++ (putS 8 [gsn]))) := by rw [← hr44]; exact e8_
      have e45_22 : r43 22 = (S (putS 1 [((l.length : Nat) : Int)])) := by rw [← hr44]; exact e13_
      refine s_op (o_sadd e45_17 e45_22 (by first | (rw [put1 (by omega), put8 (by omega)]; simp only [beFrom_length, List.length_append]; omega) | (rw [put1 (by omega), put8 (by omega), put1 (by omega)]; simp only [beFrom_length, List.length_append]; omega) | (simp only [List.length_append, shortB_len]; omega)) ?_)
      refine s_op (o_callf (vs := #[(.pointer (some ⟨b15, 0, none⟩)), (S (((putS 1 [no]) ++ (putS 8 [gsn])) ++ (putS 1 [((l.length : Nat) : Int)])))]) ca52 rfl (args2 e45_3 rfl) (bws hH42.all1 (Bld.new b15) (((putS 1 [no]) ++ (putS 8 [gsn])) ++ (putS 1 [((l.length : Nat) : Int)])) (by first | (rw [hu_, headB_len]; simp; done) | (rw [hu_, headB_len]; simp only [List.length_nil]; omega) | (simp only [List.length_append, shortB_len]; omega))) ?_)
      rintro _ w50 ⟨sg46, rfl, hB47, hX48⟩
      refine ⟨_, rfl, ?_⟩
      have hH49 : Has E w50 [sg46, [Hp.one b2 (.cells #[(.int .i64 no), (.int .i64 gsn), v_l] 24 (0, 0))], R, [Hp.one b19 (.cells #[(.int .i64 no)] 3 (0, 0))], [Hp.one b25 (.cells #[(.int .i64 gsn)] 3 (0, 0))], [Hp.one b31 (.cells #[(.int .i64 ((l.length : Nat) : Int))] 3 (0, 0))]] := hX48.of_all1
      refine s_nil ?_
      refine t_norm (hK18 _ _ ?_)
      refine wp_seq_k fun K51 hK51 => ?_
      refine wp_seq_k fun K52 hK52 => ?_
      refine c_region ?_
      refine s_op (o_fieldAddr (k := 2) (fun _ => by kernel_rfl) e45_1 ?_)
      refine s_op (o_load1 (v := v_l) Tryd.underlying22 rfl rfl hH49 (seg_sub 1 rfl) (CellsAt.one rfl) ?_)
      refine s_op (o_lenS Tryd.underlying22 rfl h_l ?_)
      refine s_op (o_move (v := (.int .i64 0)) rfl ?_)
      refine s_nil ?_
      refine t_norm (hK52 _ _ ?_)
      refine wp_block ?_
      let I54 : Nat → (Nat → Value) → World → Prop := fun n__ r__ w__ => ∃ (k : Nat) (sgB : List Hp) (acc : Bs), n__ = l.length - k ∧ Has E w__ [sgB, [Hp.one b2 (.cells #[(.int .i64 no), (.int .i64 gsn), v_l] 24 (0, 0))], R, [Hp.one b19 (.cells #[(.int .i64 no)] 3 (0, 0))], [Hp.one b25 (.cells #[(.int .i64 gsn)] 3 (0, 0))], [Hp.one b31 (.cells #[(.int .i64 ((l.length : Nat) : Int))] 3 (0, 0))]] ∧ (k ≤ l.length) ∧ (Bld b15 acc sgB) ∧ (acc = headB no gsn l.length ++ (l.take k).flatMap cellB) ∧ (acc.length ≤ 10 + 26 * k) ∧ r__ 0 = (.agg #[(.int .i64 no), (.int .i64 gsn), v_l]) ∧ r__ 1 = (.pointer (some ⟨b2, 0, none⟩)) ∧ r__ 2 = (S ([] : List UInt8)) ∧ r__ 3 = (.pointer (some ⟨b15, 0, none⟩)) ∧ r__ 8 = (.bool (!(pageR no gsn l))) ∧ r__ 26 = v_l ∧ r__ 27 = (.int .i64 ((l.length : Nat) : Int)) ∧ r__ 28 = (.int .i64 (k : Int))
      refine c_loop I54 _ ⟨0, sg46, (([] : Bs) ++ (((putS 1 [no]) ++ (putS 8 [gsn])) ++ (putS 1 [((l.length : Nat) : Int)]))), rfl, hH49, Nat.zero_le _, hB47, (by rw [List.nil_append, hu_]; simp), (by rw [List.nil_append, hu_, headB_len]; omega), e45_0, e45_1, e45_2, e45_3, e45_8, rfl, rfl, rfl⟩ ?_
      rintro n_ r57 w55 ⟨k, sgB, acc, rfl, hH56, hk, hB, hacc, hal, e53_0, e53_1, e53_2, e53_3, e53_8, e53_26, e53_27, e53_28⟩
      refine wp_seq_k fun K58 hK58 => ?_
      refine c_region ?_
      refine s_op (o_lss (a := (k : Int)) (b := ((l.length : Nat) : Int)) e53_28 e53_27 ?_)
      refine s_nil ?_
      refine t_norm (hK58 _ _ ?_)
      refine wp_seq_k fun K59 hK59 => ?_
      refine c_cond rfl (fun h60 => ?_) (fun h60 => ?_)
      · -- (k : Int) < ((l.length : Nat) : Int)
        refine wp_skip ?_
        refine t_norm (hK59 _ _ ?_)
        refine wp_seq_k fun K61 hK61 => ?_
        refine wp_block ?_
        refine wp_seq_k fun K62 hK62 => ?_
        refine c_region ?_
        obtain ⟨x66, hx67⟩ : ∃ x_, l[((k : Int)).toNat]? = some x_ := get_some (by omega)
        refine s_op (o_indexF ceC_len Tryd.underlying22 ti45 e53_26 h_l rfl e53_28 (by omega) hx67 fun b63 o64 hc65 => ?_)
        have hcl_ := celOk_len (hCe_.1 _ (List.mem_of_getElem? hx67))
        refine s_op (o_loadN (cs := [(S x66.1), (S x66.2)]) Tryd.underlying45 rfl ti45 rfl hH56 (seg_sub 2 rfl) hc65 ?_)
        refine s_op (o_alloc (cs := #[(S ([] : List UInt8)), (S ([] : List UInt8))]) ti45 rfl hH56 fun b68 w69 hH70 => ?_)
        refine s_eff (o_storeN (vs := [(S x66.1), (S x66.2)]) (c' := #[(S x66.1), (S x66.2)]) ti45 rfl rfl rfl rfl (by intro u hu; simp only [List.mem_cons, List.not_mem_nil, or_false] at hu; rcases hu with rfl | rfl <;> first | rfl) (by simp) (by kernel_rfl) (hH70.front 0 rfl) fun w71 hH72 => ?_)
        refine s_nil ?_
        refine t_norm (hK62 _ _ ?_)
        refine Rest.region mixed (by kernel_rfl) ?_
        have hH73 : Has E { w71 with drawn := w71.drawn + 1 } [[Hp.one b68 (.cells #[(S x66.1), (S x66.2)] 45 (0, 0))], sgB, [Hp.one b2 (.cells #[(.int .i64 no), (.int .i64 gsn), v_l] 24 (0, 0))], R, [Hp.one b19 (.cells #[(.int .i64 no)] 3 (0, 0))], [Hp.one b25 (.cells #[(.int .i64 gsn)] 3 (0, 0))], [Hp.one b31 (.cells #[(.int .i64 ((l.length : Nat) : Int))] 3 (0, 0))]] := Has0.drew hH72 _
        refine Rest.phaseA (fun w_ => Has E w_ [[Hp.one b68 (.cells #[(S x66.1), (S x66.2)] 45 (0, 0))]]) 0 5 5 rfl (by decide) (by kernel_rfl) ?_
        refine a_op 0 rfl (by kernel_rfl) (fun w_ h_ => o_fieldAddr (k := 0) (fun _ => by kernel_rfl) rfl ⟨rfl, rfl⟩) ?_
        refine a_op 1 rfl (by kernel_rfl) (fun w_ h_ => o_load1 (v := (S x66.1)) Tryd.underlying9 rfl rfl h_ (seg_sub 0 rfl) (CellsAt.one rfl) ⟨rfl, rfl⟩) ?_
        refine a_op 3 rfl (by kernel_rfl) (fun w_ h_ => o_fieldAddr (k := 1) (fun _ => by kernel_rfl) rfl ⟨rfl, rfl⟩) ?_
        refine a_op 4 rfl (by kernel_rfl) (fun w_ h_ => o_load1 (v := (S x66.2)) Tryd.underlying9 rfl rfl h_ (seg_sub 0 rfl) (CellsAt.one rfl) ⟨rfl, rfl⟩) ?_
        have hH74 : Has E { w71 with drawn := w71.drawn + 1 } [[Hp.one b68 (.cells #[(S x66.1), (S x66.2)] 45 (0, 0))]] := hH73.first 1 rfl
        refine a_w 2 rfl (by kernel_rfl) hH74 (o_callf (vs := #[(S x66.1)]) ca54 rfl (args1 rfl) (short_c (s := x66.1) hH73.all (by first | omega | (simp only []; omega) | (simp; done) | (simp; omega))) ?_)
        rintro _ w77 ⟨rfl, hX75⟩
        refine ⟨_, rfl, ?_⟩
        have hH76 := hX75.of_all
        have hH78 : Has E w77 [[Hp.one b68 (.cells #[(S x66.1), (S x66.2)] 45 (0, 0))]] := hH76.first 1 rfl
        refine a_done (by kernel_rfl) hH78 ?_
        refine r_op 5 rfl (by kernel_rfl) (o_callf (vs := #[(S x66.2)]) ca54 rfl (args1 rfl) (short_c (s := x66.2) hH76.all (by first | omega | (simp only []; omega) | (simp; done) | (simp; omega))) ?_)
        rintro _ w81 ⟨rfl, hX79⟩
        refine ⟨_, rfl, ?_⟩
        have hH80 := hX79.of_all
        refine r_op 6 rfl (by kernel_rfl) (o_sadd rfl rfl (by first | (rw [put1 (by omega), put8 (by omega)]; simp only [beFrom_length, List.length_append]; omega) | (rw [put1 (by omega), put8 (by omega), put1 (by omega)]; simp only [beFrom_length, List.length_append]; omega) | (simp only [List.length_append, shortB_len]; omega)) ?_)
        refine r_op 7 rfl (by kernel_rfl) (o_callf (vs := #[(.pointer (some ⟨b15, 0, none⟩)), (S ((shortB x66.1) ++ (shortB x66.2)))]) ca52 rfl (args2 e53_3 rfl) (bws (hH80.front 1 rfl).all1 hB ((shortB x66.1) ++ (shortB x66.2)) (by first | (rw [hu_, headB_len]; simp; done) | (rw [hu_, headB_len]; simp only [List.length_nil]; omega) | (simp only [List.length_append, shortB_len]; omega))) ?_)
        rintro _ w86 ⟨sg82, rfl, hB83, hX84⟩
        refine ⟨_, rfl, ?_⟩
        have hH85 : Has E w86 [sg82, [Hp.one b68 (.cells #[(S x66.1), (S x66.2)] 45 (0, 0))], [Hp.one b2 (.cells #[(.int .i64 no), (.int .i64 gsn), v_l] 24 (0, 0))], R, [Hp.one b19 (.cells #[(.int .i64 no)] 3 (0, 0))], [Hp.one b25 (.cells #[(.int .i64 gsn)] 3 (0, 0))], [Hp.one b31 (.cells #[(.int .i64 ((l.length : Nat) : Int))] 3 (0, 0))]] := hX84.of_all1
        refine Rest.done (by kernel_rfl) ?_
        refine b_norm ?_
        refine t_norm (hK61 _ _ ?_)
        refine c_region ?_
        refine s_op (o_add (a := (k : Int)) (b := 1) e53_28 rfl (w64 (by omega) (by omega)) ?_)
        refine s_op (o_move (v := (.int .i64 ((k : Int) + 1))) rfl ?_)
        refine s_nil ?_
        have hH87 : Has E w86 [sg82, [Hp.one b2 (.cells #[(.int .i64 no), (.int .i64 gsn), v_l] 24 (0, 0))], R, [Hp.one b19 (.cells #[(.int .i64 no)] 3 (0, 0))], [Hp.one b25 (.cells #[(.int .i64 gsn)] 3 (0, 0))], [Hp.one b31 (.cells #[(.int .i64 ((l.length : Nat) : Int))] 3 (0, 0))]] := Has.pick hH85 [0, 1, 1, 1, 1, 1] (by kernel_rfl)
        refine t_norm ⟨l.length - (k + 1), _, rfl, ?_, ?_⟩
        · omega
        · exact ⟨(k + 1), sg82, (acc ++ ((shortB x66.1) ++ (shortB x66.2))), rfl, hH87, (by omega), (hB83), (by (have h_ := cell_prog hacc (show l[k]? = some _ from hx67)); first | exact h_ | (simpa [List.append_assoc] using h_)), (by (have h1_ := celOk_len (hCe_.1 _ (List.mem_of_getElem? hx67))); simp only [List.length_append, shortB_len]; omega), e53_0, e53_1, e53_2, e53_3, e53_8, e53_26, e53_27, rfl⟩
      · -- not: (k : Int) < ((l.length : Nat) : Int)
        refine wp_exit ?_
        refine t_exit (t_exit (x_in (?_)))
        refine t_norm (hK51 _ _ ?_)
        refine wp_seq_k fun K88 hK88 => ?_
        refine c_region ?_
        refine s_op (o_callf (vs := #[(.pointer (some ⟨b15, 0, none⟩))]) ca56 rfl (args1 e53_3) (bstrK hH56.all1 hB) ?_)
        rintro _ w94 ⟨a89, p90, c91, rfl, hX92⟩
        refine ⟨_, rfl, ?_⟩
        have hH93 : Has E w94 [[Hp.one b15 (.cells #[a89, (.slice p90 acc.length c91)] 90 (0, 0))], [Hp.one b2 (.cells #[(.int .i64 no), (.int .i64 gsn), v_l] 24 (0, 0))], R, [Hp.one b19 (.cells #[(.int .i64 no)] 3 (0, 0))], [Hp.one b25 (.cells #[(.int .i64 gsn)] 3 (0, 0))], [Hp.one b31 (.cells #[(.int .i64 ((l.length : Nat) : Int))] 3 (0, 0))]] := hX92.of_all1
        refine s_op (o_callf (vs := #[(.pointer (some ⟨b15, 0, none⟩))]) ca58 rfl (args1 e53_3) (blenb hH93.all1) ?_)
        rintro _ w97 ⟨rfl, hX95⟩
        refine ⟨_, rfl, ?_⟩
        have hH96 : Has E w97 [[Hp.one b15 (.cells #[a89, (.slice p90 acc.length c91)] 90 (0, 0))], [Hp.one b2 (.cells #[(.int .i64 no), (.int .i64 gsn), v_l] 24 (0, 0))], R, [Hp.one b19 (.cells #[(.int .i64 no)] 3 (0, 0))], [Hp.one b25 (.cells #[(.int .i64 gsn)] 3 (0, 0))], [Hp.one b31 (.cells #[(.int .i64 ((l.length : Nat) : Int))] 3 (0, 0))]] := hX95.of_all1
        refine s_op (o_sub (a := 252) (b := (acc.length : Int)) rfl rfl (w64 (by omega) (by omega)) ?_)
        obtain ⟨n98, hn98⟩ : ∃ n_ : Nat, 252 - (acc.length : Int) = (n_ : Int) := ⟨(252 - (acc.length : Int)).toNat, by omega⟩
        refine s_op (o_callf (vs := #[(S [0]), (.int .i64 (252 - (acc.length : Int)))]) ca57 rfl (args2 rfl rfl) ((by rw [hn98]; exact repeat_c hH96.all n98 (by omega))) ?_)
        rintro _ w101 ⟨rfl, hX99⟩
        refine ⟨_, rfl, ?_⟩
        have hH100 := hX99.of_all
        refine s_op (o_buildSlice (ps := #[(0, (S acc)), (1, (S (List.replicate n98 0)))]) (cells := #[(S acc), (S (List.replicate n98 0))]) Tryd.underlying32 ti9 (by decide) (parts2 rfl rfl) (by kernel_rfl) hH100 fun b102 w103 hH104 => ?_)
        refine s_op (o_callf (vs := #[(.slice (some ⟨b102, 0, none⟩) 2 2)]) ca55 rfl (args1 rfl) (seal_c hH104.all (hg.mono (seg_sub 3 rfl)) ((sl_lit (f := sV) (l := [acc, (List.replicate n98 0)]) rfl rfl (by simp)).mono (seg_sub 0 rfl)) (by simp) (by simp only [List.flatten_cons, List.flatten_nil, List.length_append, List.length_replicate, List.length_nil]; omega)) ?_)
        rintro _ w107 ⟨rfl, hX105⟩
        refine ⟨_, rfl, ?_⟩
        have hH106 := hX105.of_all
        refine s_op (o_assign (v := (S (sealS [acc, (List.replicate n98 0)].flatten))) rfl ?_)
        refine s_nil ?_
        refine t_norm (hK88 _ _ ?_)
        refine wp_ret ?_
        refine c_ret1 Tryd.results21  (v := (S (sealS [acc, (List.replicate n98 0)].flatten))) rfl ?_
        have e_ : k = l.length := by omega
        rw [e_, List.take_length] at hacc
        have hb_ : acc = bodyB no gsn l := hacc
        have hE_ : laidP no gsn l = sealS [acc, List.replicate n98 0].flatten := by unfold laidP; rw [if_pos hR_]; unfold fullB; rw [← hb_, show 252 - acc.length = n98 from by omega]; simp
        have q108 : (laidP no gsn l) = (sealS [acc, (List.replicate n98 0)].flatten) := by exact hE_
        have hH109 : Has E w107 [R] := (hH106.front 3 rfl).first 1 rfl
        exact ⟨by rw [q108], hH109⟩
set_option maxHeartbeats 4000000 in
theorem text_c {E w : World} {R : List Hp} {s : Bs}  (hH : Has E w [R]) (hs : s.length ≤ 1000000) :
    Calls Tryd.prog 50 #[(S s)] w fun e w' => e = .returned (.tuple #[(S ((textS s).1)), (S ((textS s).2.1)), (.bool ((textS s).2.2))]) ∧ Has E w' [R] := by
  have hto_ := take_one s
  refine c_enter (args := [(S s)]) Tryd.func50 rfl Tryd.ntmps50 (by simp) ?_
  refine wp_seq_k fun K1 hK1 => ?_
  refine c_region ?_
  refine s_op (o_assign (v := (S ([] : List UInt8))) rfl ?_)
  refine s_op (o_assign (v := (S ([] : List UInt8))) rfl ?_)
  refine s_op (o_assign (v := (.bool false)) rfl ?_)
  refine s_nil ?_
  refine t_norm (hK1 _ _ ?_)
  refine wp_seq_k fun K2 hK2 => ?_
  refine c_region ?_
  refine s_op (o_move (v := (S s)) rfl ?_)
  refine s_op (o_callf (vs := #[(S s), (.int .i64 1)]) ca49 rfl (args2 rfl rfl) (take_c hH.all 1 s (by omega)) ?_)
  rintro _ w5 ⟨rfl, hX3⟩
  refine ⟨_, rfl, ?_⟩
  have hH4 := hX3.of_all
  refine s_op (o_move (v := (.tuple #[(.int .i64 ((takeS s 1).1)), (S ((takeS s 1).2.1)), (.bool ((takeS s 1).2.2))])) rfl ?_)
  refine s_op (o_extract (v := (.int .i64 ((takeS s 1).1))) rfl rfl ?_)
  refine s_op (o_extract (v := (S ((takeS s 1).2.1))) rfl rfl ?_)
  refine s_op (o_extract (v := (.bool ((takeS s 1).2.2))) rfl rfl ?_)
  refine s_op (o_assign (v := (.int .i64 ((takeS s 1).1))) rfl ?_)
  refine s_op (o_assign (v := (S ((takeS s 1).2.1))) rfl ?_)
  refine s_op (o_assign (v := (.bool ((takeS s 1).2.2))) rfl ?_)
  refine s_nil ?_
  refine t_norm (hK2 _ _ ?_)
  refine wp_seq_k fun K6 hK6 => ?_
  refine wp_seq_k fun K7 hK7 => ?_
  refine c_region ?_
  refine s_op (o_move (v := (.bool ((takeS s 1).2.2))) rfl ?_)
  refine s_op (o_not rfl ?_)
  refine s_op (o_move (v := (.bool (!((takeS s 1).2.2)))) rfl ?_)
  rcases Bool.eq_false_or_eq_true (!((takeS s 1).2.2)) with h8 | h8
  · -- !((takeS s 1).2.2)
    have h8_n : ((takeS s 1).2.2) = false := by simpa using h8
    refine s_off (b' := true) 16 rfl (congrArg Value.bool h8) rfl ?_
    refine s_off (b' := true) 16 rfl (congrArg Value.bool h8) rfl ?_
    refine s_off (b' := true) 16 rfl (congrArg Value.bool h8) rfl ?_
    refine s_off (b' := true) 16 rfl (congrArg Value.bool h8) rfl ?_
    refine s_op (o_pick_t (u := (.bool true)) ((rfl : _ = _).trans (congrArg Value.bool h8)) rfl ?_)
    refine s_nil ?_
    refine t_norm (hK7 _ _ ?_)
    refine c_true rfl rfl ?_
    refine wp_seq_k fun K9 hK9 => ?_
    refine c_region ?_
    refine s_op (o_assign (v := (S ([] : List UInt8))) rfl ?_)
    refine s_op (o_assign (v := (S ([] : List UInt8))) rfl ?_)
    refine s_op (o_assign (v := (.bool false)) rfl ?_)
    refine s_nil ?_
    refine t_norm (hK9 _ _ ?_)
    refine wp_ret ?_
    refine t_ret (c_ret3 Tryd.results50  (v := (S ([] : List UInt8))) rfl (x := (S ([] : List UInt8))) rfl (y := (.bool false)) rfl ?_)
    have hE_ := text_no (s := s) (by first | exact .inl (by simpa using h8) | exact .inl (by simpa using h8_n) | exact .inr (by omega))
    have q10 : (textS s).1 = ([] : List UInt8) := by rw [hE_]
    have q11 : (textS s).2.1 = ([] : List UInt8) := by rw [hE_]
    have q12 : (textS s).2.2 = false := by rw [hE_]
    exact ⟨by rw [q10]; rw [q11]; rw [q12], hH4⟩
  · -- not: !((takeS s 1).2.2)
    have h8_n : ((takeS s 1).2.2) = true := by simpa using h8
    refine s_on 16 rfl (congrArg Value.bool h8) (o_move (v := (.int .i64 ((takeS s 1).1))) rfl ?_)
    refine s_on 16 rfl (congrArg Value.bool h8) (o_move (v := (S ((takeS s 1).2.1))) rfl ?_)
    refine s_on 16 rfl (congrArg Value.bool h8) (o_slen Tryd.underlying9 rfl ?_)
    refine s_on 16 rfl (congrArg Value.bool h8) (o_gtr (a := (takeS s 1).1) (b := (((takeS s 1).2.1).length : Int)) rfl rfl ?_)
    refine s_op (o_pick_f (u := (.bool (decide ((((takeS s 1).2.1).length : Int) < (takeS s 1).1)))) ((rfl : _ = _).trans (congrArg Value.bool h8)) rfl ?_)
    refine s_nil ?_
    refine t_norm (hK7 _ _ ?_)
    refine c_cond rfl (fun h13 => ?_) (fun h13 => ?_)
    · -- (((takeS s 1).2.1).length : Int) < (takeS s 1).1
      refine wp_seq_k fun K14 hK14 => ?_
      refine c_region ?_
      refine s_op (o_assign (v := (S ([] : List UInt8))) rfl ?_)
      refine s_op (o_assign (v := (S ([] : List UInt8))) rfl ?_)
      refine s_op (o_assign (v := (.bool false)) rfl ?_)
      refine s_nil ?_
      refine t_norm (hK14 _ _ ?_)
      refine wp_ret ?_
      refine t_ret (c_ret3 Tryd.results50  (v := (S ([] : List UInt8))) rfl (x := (S ([] : List UInt8))) rfl (y := (.bool false)) rfl ?_)
      have hE_ := text_no (s := s) (by first | exact .inl (by simpa using h8) | exact .inl (by simpa using h8_n) | exact .inl (by simpa using h13) | exact .inr (by omega))
      have q15 : (textS s).1 = ([] : List UInt8) := by rw [hE_]
      have q16 : (textS s).2.1 = ([] : List UInt8) := by rw [hE_]
      have q17 : (textS s).2.2 = false := by rw [hE_]
      exact ⟨by rw [q15]; rw [q16]; rw [q17], hH4⟩
    · -- not: (((takeS s 1).2.1).length : Int) < (takeS s 1).1
      refine wp_skip ?_
      refine t_norm (hK6 _ _ ?_)
      refine wp_seq_k fun K18 hK18 => ?_
      refine Rest.region mixed (by kernel_rfl) ?_
      have hH19 : Has E { w5 with drawn := w5.drawn + 1 } [R] := Has0.drew hH4 _
      refine Rest.phaseA (fun w_ => Has E w_ []) 0 7 7 rfl (by decide) (by kernel_rfl) ?_
      refine a_op 0 rfl (by kernel_rfl) (fun w_ h_ => o_move (v := (S ((takeS s 1).2.1))) rfl ⟨rfl, rfl⟩) ?_
      refine a_op 1 rfl (by kernel_rfl) (fun w_ h_ => o_move (v := (.int .i64 ((takeS s 1).1))) rfl ⟨rfl, rfl⟩) ?_
      refine a_op 2 rfl (by kernel_rfl) (fun w_ h_ => o_ssl_h Tryd.underlying9 rfl rfl (by omega) (by omega) ⟨rfl, rfl⟩) ?_
      refine a_op 3 rfl (by kernel_rfl) (fun w_ h_ => o_move (v := (S ((takeS s 1).2.1))) rfl ⟨rfl, rfl⟩) ?_
      refine a_op 4 rfl (by kernel_rfl) (fun w_ h_ => o_move (v := (.int .i64 ((takeS s 1).1))) rfl ⟨rfl, rfl⟩) ?_
      refine a_op 5 rfl (by kernel_rfl) (fun w_ h_ => o_ssl_l Tryd.underlying9 rfl rfl (by omega) (by omega) ⟨rfl, rfl⟩) ?_
      refine a_op 6 rfl (by kernel_rfl) (fun w_ h_ => o_assign (v := (S (((takeS s 1).2.1).take ((takeS s 1).1).toNat))) rfl ⟨rfl, rfl⟩) ?_
      have hH20 : Has E { w5 with drawn := w5.drawn + 1 } [] := hH19.first 0 rfl
      refine a_done (by kernel_rfl) hH20 ?_
      refine r_op 7 rfl (by kernel_rfl) (o_assign (v := (S (((takeS s 1).2.1).drop ((takeS s 1).1).toNat))) rfl ?_)
      refine r_op 8 rfl (by kernel_rfl) (o_assign (v := (.bool true)) rfl ?_)
      refine Rest.done (by kernel_rfl) ?_
      refine t_norm (hK18 _ _ ?_)
      refine wp_ret ?_
      refine c_ret3 Tryd.results50  (v := (S (((takeS s 1).2.1).take ((takeS s 1).1).toNat))) rfl (x := (S (((takeS s 1).2.1).drop ((takeS s 1).1).toNat))) rfl (y := (.bool true)) rfl ?_
      have hE_ := text_yes (s := s) (by first | (simpa using h8) | (simpa using h8_n) | (simpa using h13)) (by omega)
      have q21 : (textS s).1 = ((takeS s 1).2.1).take ((takeS s 1).1).toNat := by rw [hE_]
      have q22 : (textS s).2.1 = ((takeS s 1).2.1).drop ((takeS s 1).1).toNat := by rw [hE_]
      have q23 : (textS s).2.2 = true := by rw [hE_]
      exact ⟨by rw [q21]; rw [q22]; rw [q23], hH19⟩
end Go.Q
