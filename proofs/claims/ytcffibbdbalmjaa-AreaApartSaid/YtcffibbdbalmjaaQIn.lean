/-
  A contract that leaves some heaplets as they are, where these are told among others.
-/
import Derived.Test.YtcffibbdbalmjaaQDevK
set_option linter.unusedVariables false
set_option linter.unusedSimpArgs false
namespace Go.Q
theorem sub_perm : ∀ {S R : List Hp}, S.Nodup → S ⊆ R → ∃ rest, R.Perm (S ++ rest)
  | [], R, _, _ => ⟨R, .refl _⟩
  | a :: S, R, hn, hs => by
    obtain ⟨l1, l2, rfl⟩ := List.append_of_mem (hs List.mem_cons_self)
    obtain ⟨rest, h⟩ := sub_perm (S := S) (R := l1 ++ l2) (List.nodup_cons.1 hn).2 (fun x hx => by
      have g := hs (List.mem_cons_of_mem _ hx)
      have hne : x ≠ a := fun e => (List.nodup_cons.1 hn).1 (e ▸ hx)
      simp only [List.mem_append, List.mem_cons] at g ⊢
      rcases g with g | g | g
      · exact .inl g
      · exact absurd g hne
      · exact .inr g)
    exact ⟨rest, List.perm_middle.trans (h.cons a)⟩
theorem Has.part {E w : World} {S R : List Hp} (H : Has E w [R]) (hn : S.Nodup) (hs : S ⊆ R) : ∃ rest, R.Perm (S ++ rest) ∧ Has E w [S, rest] := by
  obtain ⟨rest, hp⟩ := sub_perm hn hs
  refine ⟨rest, hp, ?_⟩
  have h0 : Has0 E w R := by simpa [Has] using H
  have h1 := h0.perm hp.symm
  simpa [Has] using h1
theorem Has.parted {E w : World} {M S R rest : List Hp} (hp : R.Perm (S ++ rest)) (H : Has E w [M, S, rest]) : Has E w [M, R] := by
  have h0 : Has0 E w (M ++ (S ++ rest)) := by simpa [Has] using H
  have h1 := h0.perm (hp.append_left M)
  simpa [Has] using h1
theorem Calls.inside {P : Program} {f : FuncId} {args : Array Value} {E w : World} {S R : List Hp} {Q : Ending → Prop} (H : Has E w [R]) (hn : S.Nodup) (hs : S ⊆ R)
    (c : ∀ R', Has E w [S, R'] → Calls P f args w fun e w' => Q e ∧ Has E w' [S, R']) : Calls P f args w fun e w' => Q e ∧ Has E w' [R] := by
  obtain ⟨rest, hp, H2⟩ := H.part hn hs
  exact (c rest H2).mono fun e w' ⟨he, h⟩ => ⟨he, by
    have h0 : Has0 E w' (S ++ rest) := by simpa [Has] using h
    have h1 := h0.perm hp
    simpa [Has] using h1⟩
theorem Calls.insideM {α : Type} {P : Program} {f : FuncId} {args : Array Value} {E w : World} {S R : List Hp} {Q : Ending → α → List Hp → Prop} (H : Has E w [R]) (hn : S.Nodup) (hs : S ⊆ R)
    (c : ∀ R', Has E w [S, R'] → Calls P f args w fun e w' => ∃ a M, Q e a M ∧ Has E w' [M, S, R']) : Calls P f args w fun e w' => ∃ a M, Q e a M ∧ Has E w' [M, R] := by
  obtain ⟨rest, hp, H2⟩ := H.part hn hs
  exact (c rest H2).mono fun e w' ⟨a, M, he, h⟩ => ⟨a, M, he, h.parted hp⟩
theorem Has.open2 {E w : World} {a b : List Hp} {ss : List (List Hp)} (H : Has E w ((a ++ b) :: ss)) : Has E w (a :: b :: ss) := by
  unfold Has at *; simpa [List.append_assoc] using H
theorem Has.close2 {E w : World} {a b : List Hp} {ss : List (List Hp)} (H : Has E w (a :: b :: ss)) : Has E w ((a ++ b) :: ss) := by
  unfold Has at *; simpa [List.append_assoc] using H
theorem Has.close2' {E w : World} {x a b : List Hp} {ss : List (List Hp)} (H : Has E w (x :: a :: b :: ss)) : Has E w (x :: (a ++ b) :: ss) := by
  unfold Has at *; simpa [List.append_assoc] using H
/-- no heaplet of these is empty -/
def Full (S : List Hp) : Prop := ∀ h ∈ S, ∃ b o, h b = some o
theorem Full.one (b : Nat) (o : Obj) : Full [Hp.one b o] := fun h hh => ⟨b, o, by rw [List.mem_singleton.1 hh]; exact Hp.one_at b o⟩
theorem Full.app {S T : List Hp} (h : Full S) (g : Full T) : Full (S ++ T) := fun x hx => (List.mem_append.1 hx).elim (h x) (g x)
theorem Full.nodup {E w : World} {S : List Hp} {ss : List (List Hp)} (hf : Full S) (H : Has E w (S :: ss)) : S.Nodup := by
  have h0 : Has0 E w (S ++ ss.flatten) := by simpa [Has] using H
  have h1 : S.Pairwise Hp.dis := h0.dj.sublist (List.sublist_append_left _ _)
  refine List.Pairwise.imp_of_mem (fun {a b} ha hb d e => ?_) h1
  subst e
  obtain ⟨x, o, hx⟩ := hf a ha
  rcases d x with g | g <;> rw [hx] at g <;> cases g
theorem Own.full {e sz n : Nat} {v : Value} {cs : List Value} {hs : List Hp} (h : Own e sz v n cs hs) : Full hs := by
  obtain ⟨_, ⟨_, _, h⟩ | ⟨b, cap, cur, _, h, _⟩⟩ := h
  · subst h; exact fun x hx => by cases hx
  · subst h; exact Full.one _ _
theorem in_sub {a b l : List Hp} (h : a ⊆ l) (g : b ⊆ l) : a ++ b ⊆ l := fun x hx => (List.mem_append.1 hx).elim (fun y => h y) (fun y => g y)
-- what stays, whatever is done
theorem LoOk.sync {lo : List (Int × Bs)} {k : Nat} (h : LoOk lo k) (p : Pw) : LoOk (syncO p lo) k := by
  unfold syncO; split
  · exact LoOk.nil k
  · exact h
theorem syncA_len (p : Pw) (la : List Bs) (lo : List (Int × Bs)) : (syncA p la lo).length = la.length := by
  unfold syncA; split
  · exact settle_len _ _ _
  · rfl
theorem putA_len (la : List Bs) (n : Int) (s : Bs) : (putA la n s).length = la.length := by
  unfold putA; split <;> simp
theorem LoOk.puto {lo : List (Int × Bs)} {k m : Nat} (h : LoOk lo k) (n : Int) (s : Bs) : LoOk (putO m lo n s) k := by
  unfold putO; split
  · exact h.del n
  · exact h
theorem readE_on {p : Pw} {la : List Bs} {n : Int} (h : p.off = false) (hn : inS n la.length) : readE p la n = 0 := by unfold readE; rw [h]; simp [hn]
theorem readS_on {p q : Pw} {la : List Bs} {lo : List (Int × Bs)} {n : Int} (h : p.off = false) (g : q.off = false) : readS p la lo n = readS q la lo n := by unfold readS; rw [h, g]
end Go.Q
