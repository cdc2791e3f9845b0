/-
  Layer 15: the shortest way: what the document's way is, and what is kept while the program looks for one.
-/
import Derived.Test.YtcffibbdbalmjaaQGraph
set_option linter.unusedVariables false
set_option linter.unusedSimpArgs false
namespace Go.Q
set_option linter.unusedVariables false
/-- numbers that are led to one by one -/
def wk (l : Edges) : Int → List Int → Prop
  | _, [] => True
  | a, x :: r => (a, x) ∈ l ∧ wk l x r
def la : Int → List Int → Int
  | a, [] => a
  | _, x :: r => la x r
theorem la_snoc (x : Int) : ∀ (a : Int) (r : List Int), la a (r ++ [x]) = x
  | _, [] => rfl
  | _, y :: r => la_snoc x y r
theorem wk_app {l : Edges} : ∀ {a : Int} {r s : List Int}, wk l a (r ++ s) ↔ wk l a r ∧ wk l (la a r) s
  | a, [], s => by simp [wk, la]
  | a, y :: r, s => by simp only [List.cons_append, wk, la]; rw [wk_app (a := y) (r := r)]; exact and_assoc.symm
theorem la_app : ∀ (a : Int) (r s : List Int), la a (r ++ s) = la (la a r) s
  | _, [], _ => rfl
  | _, y :: r, s => la_app y r s
theorem la_last : ∀ (a : Int) (r : List Int), (a :: r).getLast? = some (la a r)
  | _, [] => rfl
  | a, y :: r => by rw [List.getLast?_cons_cons]; exact la_last y r
theorem wk_cut {l : Edges} {to : Int} : ∀ (r : List Int) (a : Int), wk l a r → (la a r, to) ∈ l → ∃ r', r'.length ≤ r.length ∧ wk l a r' ∧ (la a r', to) ∈ l ∧ r'.Nodup
  | [], a, h, e => ⟨[], Nat.le_refl _, h, e, List.nodup_nil⟩
  | x :: r, a, h, e => by
    obtain ⟨r1, h1, h2, h3, h4⟩ := wk_cut r x h.2 e
    by_cases hx : x ∈ r1
    · obtain ⟨p, q, rfl⟩ := List.append_of_mem hx
      have hn := List.nodup_append.1 h4
      have h5 := (wk_app.1 h2).2
      refine ⟨x :: q, ?_, ⟨h.1, h5.2⟩, ?_, hn.2.1⟩
      · simp only [List.length_append, List.length_cons] at h1 ⊢; omega
      · rw [la_app] at h3; exact h3
    · exact ⟨x :: r1, by simp only [List.length_cons]; omega, ⟨h.1, h2⟩, h3, List.nodup_cons.2 ⟨hx, h4⟩⟩
theorem nodup_len : ∀ (a b : List Int), a.Nodup → (∀ x ∈ a, x ∈ b) → a.length ≤ b.length
  | [], _, _, _ => Nat.zero_le _
  | x :: a, b, h, hs => by
    have h2 := List.nodup_cons.1 h
    have hx := hs x (List.mem_cons_self ..)
    have := nodup_len a (b.erase x) h2.2 fun y hy => (List.mem_erase_of_ne (fun e => h2.1 (by rw [← e]; exact hy))).2 (hs y (List.mem_cons_of_mem _ hy))
    rw [List.length_erase_of_mem hx] at this
    have : 0 < b.length := List.length_pos_of_mem hx
    rw [List.length_cons]; omega
theorem wk_snd {l : Edges} : ∀ (r : List Int) (a : Int), wk l a r → ∀ x ∈ r, ∃ y, (y, x) ∈ l
  | [], _, _, _, h => by simp at h
  | z :: r, a, h, x, hx => by
    rcases List.mem_cons.1 hx with rfl | hx
    · exact ⟨a, h.1⟩
    · exact wk_snd r z h.2 x hx
theorem stepsL_is {l : Edges} {to : Int} : ∀ (n k : Nat) (now : List Int), stepsL l to n k now ≠ 0 → ∃ j, stepsL l to n k now = k + j ∧ ∃ x ∈ now, ∃ r : List Int, r.length = j ∧ wk l x r ∧ (la x r, to) ∈ l
  | 0, _, _, h => absurd rfl h
  | n + 1, k, now, h => by
    rw [stepsL] at h ⊢
    by_cases g : to ∈ nextS l now
    · rw [if_pos g]
      obtain ⟨x, hx, e⟩ := nextS_mem.1 g
      exact ⟨0, rfl, x, hx, [], rfl, trivial, e⟩
    · rw [if_neg g] at h ⊢
      obtain ⟨j, h1, x, hx, r, h2, h3, h4⟩ := stepsL_is n (k + 1) _ h
      obtain ⟨y, hy, e⟩ := nextS_mem.1 hx
      exact ⟨j + 1, by omega, y, hy, x :: r, by simp only [List.length_cons]; omega, ⟨e, h3⟩, h4⟩
theorem stepsL_of {l : Edges} {to : Int} : ∀ (n k : Nat) (now : List Int) (x : Int) (r : List Int), x ∈ now → wk l x r → (la x r, to) ∈ l → r.length < n → k ≤ stepsL l to n k now ∧ stepsL l to n k now ≤ k + r.length
  | 0, _, _, _, _, _, _, _, h => by omega
  | n + 1, k, now, x, r, hx, h, e, hl => by
    rw [stepsL]
    by_cases g : to ∈ nextS l now
    · rw [if_pos g]; omega
    · rw [if_neg g]
      cases r with
      | nil => exact absurd (nextS_mem.2 ⟨x, hx, e⟩) g
      | cons y r =>
        have := stepsL_of n (k + 1) (nextS l now) y r (nextS_mem.2 ⟨x, hx, h.1⟩) h.2 e (by simp only [List.length_cons] at hl; omega)
        simp only [List.length_cons]; omega
theorem steps_is {l : Edges} {a to : Int} {k : Nat} (h : stepsS l a to = k + 1) : ∃ r : List Int, r.length = k ∧ wk l a r ∧ (la a r, to) ∈ l := by
  obtain ⟨j, h1, x, hx, r, h2, h3, h4⟩ := stepsL_is (l := l) (to := to) (l.length + 1) 1 [a] (by unfold stepsS at h; omega)
  rw [List.mem_singleton.1 hx] at h3 h4
  exact ⟨r, by unfold stepsS at h; omega, h3, h4⟩
theorem steps_of {l : Edges} {a to : Int} {r : List Int} (h : wk l a r) (e : (la a r, to) ∈ l) : 1 ≤ stepsS l a to ∧ stepsS l a to ≤ r.length + 1 := by
  obtain ⟨r', h1, h2, h3, h4⟩ := wk_cut r a h e
  have h5 : r'.length ≤ l.length := by
    have := nodup_len r' (l.map (·.2)) h4 fun x hx => by obtain ⟨y, hy⟩ := wk_snd r' a h2 x hx; exact List.mem_map.2 ⟨_, hy, rfl⟩
    rwa [List.length_map] at this
  have := stepsL_of (l := l) (to := to) (l.length + 1) 1 [a] a r' (by simp) h2 h3 (by omega)
  unfold stepsS; omega
/-- which of two ways of as many numbers is the lesser one -/
def lx : List Int → List Int → Prop
  | x :: w, y :: v => x < y ∨ (x = y ∧ lx w v)
  | [], _ :: _ => True
  | _, [] => False
theorem lx_irr : ∀ w, ¬ lx w w
  | [] => fun h => h
  | x :: w => fun h => h.elim (fun g => by omega) (fun g => lx_irr w g.2)
theorem lx_tr : ∀ {u v w : List Int}, lx u v → lx v w → lx u w
  | [], _ :: _, _ :: _, _, _ => trivial
  | [], _ :: _, [], _, h => h.elim
  | [], [], _, h, _ => h.elim
  | _ :: _, [], _, h, _ => h.elim
  | _ :: _, _ :: _, [], _, h => h.elim
  | x :: u, y :: v, z :: w, h, g => by
    rcases h with h | ⟨rfl, h⟩ <;> rcases g with g | ⟨rfl, g⟩
    · exact .inl (by omega)
    · exact .inl h
    · exact .inl g
    · exact .inr ⟨rfl, lx_tr h g⟩
theorem lx_app {s t : List Int} : ∀ {u v : List Int}, u.length = v.length → lx u v → lx (u ++ s) (v ++ t)
  | [], [], _, h => h.elim
  | [], _ :: _, h, _ => by simp at h
  | _ :: _, [], h, _ => by simp at h
  | x :: u, y :: v, hl, h => by
    rcases h with h | ⟨rfl, h⟩
    · exact .inl h
    · exact .inr ⟨rfl, lx_app (by simpa using hl) h⟩
theorem lx_same {s t : List Int} : ∀ (u : List Int), lx s t → lx (u ++ s) (u ++ t)
  | [], h => h
  | x :: u, h => .inr ⟨rfl, lx_same u h⟩
def slex (w v : List Int) : Prop := w.length < v.length ∨ (w.length = v.length ∧ lx w v)
theorem slex_tr {u v w : List Int} (h : slex u v) (g : slex v w) : slex u w := by
  rcases h with h | ⟨h, h'⟩ <;> rcases g with g | ⟨g, g'⟩
  · exact .inl (by omega)
  · exact .inl (by omega)
  · exact .inl (by omega)
  · exact .inr ⟨by omega, lx_tr h' g'⟩
theorem find_least {p : Int → Bool} : ∀ {m : List Int} {x : Int}, m.Pairwise (· < ·) → x ∈ m → p x = true → ∃ y, m.find? p = some y ∧ y ∈ m ∧ p y = true ∧ ∀ z ∈ m, p z = true → y ≤ z
  | [], _, _, h, _ => by simp at h
  | z :: m, x, hs, hx, hp => by
    have h2 := List.pairwise_cons.1 hs
    cases hz : p z with
    | true =>
      refine ⟨z, by rw [List.find?_cons, hz], by simp, hz, fun u hu _ => ?_⟩
      rcases List.mem_cons.1 hu with rfl | hu
      · omega
      · have := h2.1 u hu; omega
    | false =>
      have hxm : x ∈ m := (List.mem_cons.1 hx).resolve_left (fun e => by rw [e, hz] at hp; cases hp)
      obtain ⟨y, h3, h4, h5, h6⟩ := find_least h2.2 hxm hp
      refine ⟨y, by rw [List.find?_cons, hz]; exact h3, List.mem_cons_of_mem _ h4, h5, fun u hu hpu => ?_⟩
      exact h6 u ((List.mem_cons.1 hu).resolve_left (fun e => by rw [e, hz] at hpu; cases hpu)) hpu
theorem tail_is {l : Edges} {to : Int} : ∀ (k : Nat) (cur : Int), stepsS l cur to = k + 1 → wk l cur (tailS l to k cur) ∧ (la cur (tailS l to k cur), to) ∈ l ∧ (tailS l to k cur).length = k ∧ ∀ r : List Int, r.length = k → wk l cur r → (la cur r, to) ∈ l → ¬ lx r (tailS l to k cur)
  | 0, cur, h => by
    obtain ⟨r, h1, h2, h3⟩ := steps_is h
    obtain rfl := List.eq_nil_of_length_eq_zero h1
    exact ⟨trivial, h3, rfl, fun r _ _ _ g => by rw [tailS] at g; cases r <;> exact g⟩
  | k + 1, cur, h => by
    have key : ∀ x r, (cur, x) ∈ l → wk l x r → r.length = k → (la x r, to) ∈ l → stepsS l x to = k + 1 := fun x r e hw hl he => by
      have h1 := steps_of hw he
      obtain ⟨m, hm⟩ : ∃ m, stepsS l x to = m + 1 := ⟨stepsS l x to - 1, by omega⟩
      obtain ⟨r2, g1, g2, g3⟩ := steps_is hm
      have h2 := steps_of (l := l) (a := cur) (to := to) (r := x :: r2) ⟨e, g2⟩ g3
      simp only [List.length_cons] at h2; omega
    obtain ⟨r, h1, h2, h3⟩ := steps_is h
    cases r with
    | nil => simp at h1
    | cons x r =>
      have hx := key x r h2.1 h2.2 (by simpa using h1) h3
      obtain ⟨y, f1, f2, f3, f4⟩ := find_least (p := fun x => decide (stepsS l x to = k + 1)) (nextS_sorted l [cur]) (next1_mem.2 h2.1) (decide_eq_true hx)
      obtain ⟨i1, i2, i3, i4⟩ := tail_is k y (of_decide_eq_true f3)
      rw [tailS, f1]
      refine ⟨⟨next1_mem.1 f2, i1⟩, i2, by rw [List.length_cons, i3], fun r' g1 g2 g3 g4 => ?_⟩
      cases r' with
      | nil => simp at g1
      | cons z r' =>
        have hz := key z r' g2.1 g2.2 (by simpa using g1) g3
        have := f4 z (next1_mem.2 g2.1) (decide_eq_true hz)
        rcases g4 with g4 | ⟨rfl, g4⟩
        · omega
        · exact i4 r' (by simpa using g1) g2.2 g3 g4
/-- a way from a -/
def Wy (l : Edges) (a : Int) (w : List Int) : Prop := ∃ r, w = a :: r ∧ wk l a r
theorem Wy.snoc {l : Edges} {a y x : Int} {w : List Int} (h : Wy l a w) (hy : w.getLast? = some y) (e : (y, x) ∈ l) : Wy l a (w ++ [x]) := by
  obtain ⟨r, rfl, h⟩ := h
  rw [la_last] at hy
  obtain rfl := Option.some.inj hy
  exact ⟨r ++ [x], rfl, wk_app.2 ⟨h, e, trivial⟩⟩
structure TW (l : Edges) (a to : Int) (T : List Int) (n : Nat) : Prop where
  wy : Wy l a T
  len : T.length = n
  last : ∃ y, T.getLast? = some y ∧ (y, to) ∈ l
  least : ∀ w y, Wy l a w → w.getLast? = some y → (y, to) ∈ l → n ≤ w.length ∧ (w.length = n → ¬ lx w T)
theorem way_is {l : Edges} {a to : Int} (h : stepsS l a to ≠ 0) : TW l a to (rwayS l a to) (stepsS l a to) := by
  obtain ⟨k, hk⟩ : ∃ k, stepsS l a to = k + 1 := ⟨stepsS l a to - 1, by omega⟩
  obtain ⟨h1, h2, h3, h4⟩ := tail_is k a hk
  have e : rwayS l a to = a :: tailS l to k a := by rw [rwayS, if_neg h, hk]; rfl
  rw [e, hk]
  refine ⟨⟨_, rfl, h1⟩, by rw [List.length_cons, h3], ⟨_, la_last _ _, h2⟩, fun w y hw hy e => ?_⟩
  obtain ⟨r, rfl, hr⟩ := hw
  rw [la_last] at hy
  obtain rfl := Option.some.inj hy
  have := steps_of hr e
  refine ⟨by rw [List.length_cons]; omega, fun hl g => ?_⟩
  rcases g with g | ⟨_, g⟩
  · omega
  · exact h4 r (by simpa using hl) hr e g
theorem way_of {l : Edges} {a to y : Int} {w : List Int} (h : Wy l a w) (hy : w.getLast? = some y) (e : (y, to) ∈ l) : stepsS l a to ≠ 0 := by
  obtain ⟨r, rfl, hr⟩ := h
  rw [la_last] at hy
  obtain rfl := Option.some.inj hy
  have := steps_of hr e; omega
theorem wk_join {l : Edges} {a x y : Int} {w s : List Int} (h : Wy l a w) (hy : w.getLast? = some y) (e : (y, x) ∈ l) (hs : wk l x s) : Wy l a (w ++ x :: s) ∧ (w ++ x :: s).getLast? = some (la x s) := by
  obtain ⟨r, rfl, hr⟩ := h
  rw [la_last] at hy
  obtain rfl := Option.some.inj hy
  refine ⟨⟨r ++ x :: s, rfl, wk_app.2 ⟨hr, e, hs⟩⟩, ?_⟩
  rw [List.cons_append, la_last, la_app]; rfl
/-- a way that leads to the next number of T from before T's beginning: there is none -/
theorem TW.no {l : Edges} {a to x y : Int} {T q : List Int} {n j : Nat} (h : TW l a to T n) (hj : j + 1 < n) (hx : T[j + 1]? = some x) (hq : Wy l a q) (hy : q.getLast? = some y) (e : (y, x) ∈ l) (hs : slex q (T.take (j + 1))) : False := by
  obtain ⟨r, hT, hr⟩ := h.wy
  have hlt : j + 1 < T.length := by rw [h.len]; exact hj
  have hd : T.drop (j + 1) = x :: T.drop (j + 2) := by
    rw [List.drop_eq_getElem_cons hlt]
    have : T[j + 1] = x := by rw [List.getElem?_eq_getElem hlt] at hx; exact Option.some.inj hx
    rw [this]
  have hsp : T = T.take (j + 1) ++ x :: T.drop (j + 2) := by rw [← hd, List.take_append_drop]
  have hrd : r = r.take j ++ x :: T.drop (j + 2) := by
    have := hsp; rw [hT, List.take_succ_cons, List.cons_append] at this
    have := (List.cons.inj this).2; rw [hT]; exact this
  have hw : wk l x (T.drop (j + 2)) := by rw [hrd] at hr; exact (wk_app.1 hr).2.2
  have hl2 : (la x (T.drop (j + 2)), to) ∈ l := by
    obtain ⟨z, hz, e2⟩ := h.last
    rw [hT, la_last, hrd, la_app] at hz
    obtain rfl := Option.some.inj hz
    rw [hT] at e2 ⊢; exact e2
  obtain ⟨w1, w2⟩ := wk_join hq hy e hw
  obtain ⟨g1, g2⟩ := h.least _ _ w1 w2 hl2
  have hlen : (T.take (j + 1)).length = j + 1 := by rw [List.length_take]; omega
  have hdl : (T.drop (j + 2)).length = n - (j + 2) := by rw [List.length_drop, h.len]
  rw [List.length_append, List.length_cons, hdl] at g1 g2
  rcases hs with hs | ⟨hs, hs2⟩
  · omega
  · refine g2 (by omega) ?_
    have g3 := lx_app (s := x :: T.drop (j + 2)) (t := x :: T.drop (j + 2)) hs hs2
    rw [← hsp] at g3; exact g3
theorem TW.next {l : Edges} {a to : Int} {T : List Int} {n j : Nat} (h : TW l a to T n) (hj : j + 1 < n) : ∃ x y, T[j + 1]? = some x ∧ (T.take (j + 1)).getLast? = some y ∧ (y, x) ∈ l ∧ T.take (j + 1) ++ [x] = T.take (j + 2) := by
  obtain ⟨r, hT, hr⟩ := h.wy
  have hlt : j + 1 < T.length := by rw [h.len]; exact hj
  have hd : r.drop j = T[j + 1] :: r.drop (j + 1) := by
    have : j < r.length := by rw [hT] at hlt; simpa using hlt
    rw [List.drop_eq_getElem_cons this]; congr 1; subst hT; simp
  have h2 : wk l a (r.take j ++ T[j + 1] :: r.drop (j + 1)) := by rw [← hd, List.take_append_drop]; exact hr
  refine ⟨T[j + 1], la a (r.take j), List.getElem?_eq_getElem hlt, ?_, (wk_app.1 h2).2.1, ?_⟩
  · subst hT; rw [List.take_succ_cons, la_last]
  · rw [List.take_append_getElem]
structure BI (l : Edges) (a to : Int) (cur : List Int) (qs : List (List Int)) : Prop where
  sorted : cur.Pairwise (· < ·)
  wy : ∀ w ∈ qs, Wy l a w
  srt : qs.Pairwise slex
  near : ∀ w ∈ qs, ∀ h t, qs = h :: t → slex w.dropLast h
  met : ∀ x ∈ cur, ∃ q y, Wy l a q ∧ q.getLast? = some y ∧ (y, x) ∈ l ∧ ∀ h t, qs = h :: t → slex q h
  hit : stepsS l a to ≠ 0 → ∃ j, j < stepsS l a to ∧ (rwayS l a to).take (j + 1) ∈ qs
  len : ∀ w ∈ qs, w.length ≤ cur.length + 1
structure BJ (l : Edges) (a to : Int) (p : List Int) (m : List Int) (cur : List Int) (qs : List (List Int)) : Prop where
  sorted : cur.Pairwise (· < ·)
  wy : ∀ w ∈ p :: qs, Wy l a w
  srt : (p :: qs).Pairwise slex
  near : ∀ w ∈ qs, slex w.dropLast p ∨ ∃ x ∈ m, w = p ++ [x]
  met : ∀ x ∈ cur, (∃ q y, Wy l a q ∧ q.getLast? = some y ∧ (y, x) ∈ l ∧ slex q p) ∨ x ∈ m
  hit : stepsS l a to ≠ 0 → (∃ j, j < stepsS l a to ∧ (rwayS l a to).take (j + 1) ∈ qs) ∨ (∃ j, j + 1 < stepsS l a to ∧ p = (rwayS l a to).take (j + 1) ∧ ∀ x, (rwayS l a to)[j + 1]? = some x → x ∉ m) ∨ p = rwayS l a to
  nohit : to ∉ m
  len : ∀ w ∈ p :: qs, w.length ≤ cur.length + 1
theorem BI.start (l : Edges) (a to : Int) : BI l a to [] [[a]] := by
  refine ⟨List.Pairwise.nil, fun w hw => ?_, List.pairwise_singleton _ _, fun w hw h t e => ?_, fun x h => absurd h (by simp), fun h => ⟨0, by omega, ?_⟩, fun w hw => ?_⟩
  · rw [List.mem_singleton.1 hw]; exact ⟨[], rfl, trivial⟩
  · rw [List.mem_singleton.1 hw]; obtain rfl := (List.cons.inj e).1; exact .inl (by simp)
  · rw [rwayS, if_neg h]; simp
  · rw [List.mem_singleton.1 hw]; simp
theorem BI.open {l : Edges} {a to : Int} {cur : List Int} {p : List Int} {qs : List (List Int)} (h : BI l a to cur (p :: qs)) : BJ l a to p [] cur qs := by
  refine ⟨h.sorted, h.wy, h.srt, fun w hw => .inl (h.near w (List.mem_cons_of_mem _ hw) _ _ rfl), fun x hx => ?_, fun hn => ?_, by simp, h.len⟩
  · obtain ⟨q, y, h1, h2, h3, h4⟩ := h.met x hx
    exact .inl ⟨q, y, h1, h2, h3, h4 _ _ rfl⟩
  · obtain ⟨j, hj, hm⟩ := h.hit hn
    rcases List.mem_cons.1 hm with e | hm
    · by_cases hj2 : j + 1 < stepsS l a to
      · exact .inr (.inl ⟨j, hj2, e.symm, fun _ _ => by simp⟩)
      · refine .inr (.inr ?_)
        rw [← e, List.take_of_length_le]; have := (way_is hn).len; omega
    · exact .inl ⟨j, hj, hm⟩
theorem BJ.done {l : Edges} {a to y : Int} {cur : List Int} {p : List Int} {qs : List (List Int)} (hy : p.getLast? = some y) (h : BJ l a to p (nextS l [y]) cur qs) : BI l a to cur qs := by
  have hs := List.pairwise_cons.1 h.srt
  refine ⟨h.sorted, fun w hw => h.wy w (List.mem_cons_of_mem _ hw), hs.2, fun w hw g t e => ?_, fun x hx => ?_, fun hn => ?_, fun w hw => h.len w (List.mem_cons_of_mem _ hw)⟩
  · have hg := hs.1 g (by rw [e]; simp)
    rcases h.near w hw with g2 | ⟨x, hx, rfl⟩
    · exact slex_tr g2 hg
    · rw [List.dropLast_concat]; exact hg
  · rcases h.met x hx with ⟨q, z, h1, h2, h3, h4⟩ | hx
    · exact ⟨q, z, h1, h2, h3, fun g t e => slex_tr h4 (hs.1 g (by rw [e]; simp))⟩
    · exact ⟨p, y, h.wy p (by simp), hy, next1_mem.1 hx, fun g t e => hs.1 g (by rw [e]; simp)⟩
  · rcases h.hit hn with g | ⟨j, hj, hp, g⟩ | g
    · exact g
    · exfalso
      obtain ⟨x, z, h1, h2, h3, _⟩ := (way_is hn).next hj
      rw [← hp, hy] at h2
      obtain rfl := Option.some.inj h2
      exact g x h1 (next1_mem.2 h3)
    · exfalso
      obtain ⟨z, h1, h2⟩ := (way_is hn).last
      rw [← g, hy] at h1
      obtain rfl := Option.some.inj h1
      exact h.nohit (next1_mem.2 h2)
theorem BI.none {l : Edges} {a to : Int} {cur : List Int} {qs : List (List Int)} (h : BI l a to cur qs) (hl : qs.length = 0) : rwayS l a to = [] := by
  obtain rfl := List.eq_nil_of_length_eq_zero hl
  rw [rwayS, if_pos]
  refine Classical.byContradiction fun hn => ?_
  obtain ⟨j, _, hm⟩ := h.hit hn
  simp at hm
theorem BJ.ret {l : Edges} {a to y : Int} {m cur : List Int} {p : List Int} {qs : List (List Int)} (h : BJ l a to p m cur qs) (hy : p.getLast? = some y) (e : to ∈ nextS l [y]) : p = rwayS l a to := by
  have e := next1_mem.1 e
  have hw := h.wy p (by simp)
  have hn := way_of hw hy e
  have T := way_is hn
  obtain ⟨g1, g2⟩ := T.least p y hw hy e
  rcases h.hit hn with ⟨j, hj, hm⟩ | ⟨j, hj, hp, _⟩ | g
  · exfalso
    have hlt : ((rwayS l a to).take (j + 1)).length = j + 1 := by rw [List.length_take, T.len]; omega
    rcases (List.pairwise_cons.1 h.srt).1 _ hm with g | ⟨g, g3⟩
    · omega
    · refine g2 (by omega) ?_
      rwa [List.take_of_length_le (by rw [T.len]; omega)] at g3
  · exfalso
    have : p.length ≤ j + 1 := by rw [hp, List.length_take]; omega
    omega
  · exact g
theorem m_sorted {m : List Int} (hs : m.Pairwise (· < ·)) {i : Nat} {x : Int} (hx : m[i]? = some x) : ∀ z ∈ m.take i, z < x := fun z hz => by
  have hlt : i < m.length := (List.getElem?_eq_some_iff.1 hx).1
  have e := (List.getElem?_eq_some_iff.1 hx).2
  obtain ⟨k, hk⟩ := List.mem_iff_getElem?.1 hz
  rw [List.getElem?_take] at hk
  split at hk
  · rename_i hki
    obtain ⟨hk2, e2⟩ := List.getElem?_eq_some_iff.1 hk
    have := List.pairwise_iff_getElem.1 hs k i hk2 hlt hki
    omega
  · cases hk
/-- one more number that p leads to -/
theorem BJ.step {l : Edges} {a to y x : Int} {i : Nat} {cur : List Int} {p : List Int} {qs more : List (List Int)} (h : BJ l a to p ((nextS l [y]).take i) cur qs) (hy : p.getLast? = some y) (hx : (nextS l [y])[i]? = some x) (hne : x ≠ to)
    (hm : (more = [] ∧ x ∈ cur) ∨ (more = [p ++ [x]] ∧ x ∉ cur)) : BJ l a to p ((nextS l [y]).take (i + 1)) (withS x false cur) (qs ++ more) := by
  have hxm : x ∈ nextS l [y] := List.mem_of_getElem? hx
  have e := next1_mem.1 hxm
  have htk : ∀ z, z ∈ (nextS l [y]).take (i + 1) ↔ z ∈ (nextS l [y]).take i ∨ z = x := fun z => by rw [take_succ_of hx, List.mem_append, List.mem_singleton]
  have hlt := m_sorted (nextS_sorted l [y]) hx
  have hl := (withS_len x cur h.sorted).1
  have hge : cur.length ≤ (withS x false cur).length := by split at hl <;> omega
  have hpl := h.len p (by simp)
  have hmore : ∀ w ∈ more, w = p ++ [x] ∧ x ∉ cur := fun w hw => by
    rcases hm with ⟨rfl, _⟩ | ⟨rfl, g⟩
    · simp at hw
    · exact ⟨List.mem_singleton.1 hw, g⟩
  refine ⟨withS_sorted x cur h.sorted, fun w hw => ?_, ?_, fun w hw => ?_, fun z hz => ?_, fun hn => ?_, fun g => ?_, fun w hw => ?_⟩
  · rw [← List.cons_append] at hw
    rcases List.mem_append.1 hw with hw | hw
    · exact h.wy w hw
    · rw [(hmore w hw).1]; exact (h.wy p (by simp)).snoc hy e
  · rw [← List.cons_append]
    refine List.pairwise_append.2 ⟨h.srt, ?_, fun w hw v hv => ?_⟩
    · rcases hm with ⟨rfl, _⟩ | ⟨rfl, _⟩
      · exact List.Pairwise.nil
      · exact List.pairwise_singleton _ _
    · rw [(hmore v hv).1]
      rcases List.mem_cons.1 hw with rfl | hw
      · exact .inl (by simp)
      · rcases h.near w hw with g | ⟨z, hz, rfl⟩
        · have hwl : w ≠ [] := by obtain ⟨r, hr, _⟩ := h.wy w (List.mem_cons_of_mem _ hw); rw [hr]; simp
          have hdl : w.dropLast.length = w.length - 1 := List.length_dropLast
          have hw1 : 0 < w.length := List.length_pos_iff.2 hwl
          rcases g with g | ⟨g, g2⟩
          · exact .inl (by rw [List.length_append, List.length_singleton]; omega)
          · refine .inr ⟨by rw [List.length_append, List.length_singleton]; omega, ?_⟩
            have := lx_app (s := [w.getLast hwl]) (t := [x]) g g2
            rwa [List.dropLast_concat_getLast hwl] at this
        · exact .inr ⟨by simp, lx_same p (.inl (hlt z hz))⟩
  · rcases List.mem_append.1 hw with hw | hw
    · rcases h.near w hw with g | ⟨z, hz, e⟩
      · exact .inl g
      · exact .inr ⟨z, (htk z).2 (.inl hz), e⟩
    · exact .inr ⟨x, (htk x).2 (.inr rfl), (hmore w hw).1⟩
  · rcases (withS_mem x z cur).1 hz with rfl | hz
    · exact .inr ((htk _).2 (.inr rfl))
    · rcases h.met z hz with g | g
      · exact .inl g
      · exact .inr ((htk z).2 (.inl g))
  · rcases h.hit hn with ⟨j, hj, g⟩ | ⟨j, hj, hp, g⟩ | g
    · exact .inl ⟨j, hj, List.mem_append_left _ g⟩
    · obtain ⟨u, v, h1, h2, h3, h4⟩ := (way_is hn).next hj
      by_cases hu : u = x
      · subst hu
        rcases hm with ⟨_, hc⟩ | ⟨rfl, _⟩
        · exfalso
          rcases h.met u hc with ⟨q, z, q1, q2, q3, q4⟩ | g2
          · exact (way_is hn).no hj h1 q1 q2 q3 (hp ▸ q4)
          · exact g u h1 g2
        · exact .inl ⟨j + 1, hj, List.mem_append_right _ (by rw [hp, h4]; simp)⟩
      · refine .inr (.inl ⟨j, hj, hp, fun z hz hzm => ?_⟩)
        rcases (htk z).1 hzm with g2 | g2
        · exact g z hz g2
        · rw [h1] at hz; exact hu ((Option.some.inj hz).trans g2)
    · exact .inr (.inr g)
  · rcases (htk to).1 g with g | g
    · exact h.nohit g
    · exact hne g.symm
  · rw [← List.cons_append] at hw
    rcases List.mem_append.1 hw with hw | hw
    · have := h.len w hw; omega
    · obtain ⟨rfl, hc⟩ := hmore w hw
      rw [if_neg hc] at hl
      rw [List.length_append, List.length_singleton]; omega
theorem BI.from {l : Edges} {a to : Int} {cur : List Int} {qs : List (List Int)} (h : BI l a to cur qs) : cur.length ≤ l.length :=
  len_snd h.sorted fun x hx => by obtain ⟨q, y, _, _, e, _⟩ := h.met x hx; exact ⟨y, e⟩
theorem BJ.from {l : Edges} {a to y : Int} {i : Nat} {cur : List Int} {p : List Int} {qs : List (List Int)} (h : BJ l a to p ((nextS l [y]).take i) cur qs) : cur.length ≤ l.length :=
  len_snd h.sorted fun x hx => by
    rcases h.met x hx with ⟨q, y, _, _, e, _⟩ | g
    · exact ⟨y, e⟩
    · exact ⟨_, next1_mem.1 (List.mem_of_mem_take g)⟩
theorem BJ.sub_len {l : Edges} {a to y x : Int} {i : Nat} {cur : List Int} {p : List Int} {qs : List (List Int)} (h : BJ l a to p ((nextS l [y]).take i) cur qs) (hx : (nextS l [y])[i]? = some x) : (withS x false cur).length ≤ l.length :=
  len_snd (withS_sorted x cur h.sorted) fun z hz => by
    rcases (withS_mem x z cur).1 hz with rfl | hz
    · exact ⟨_, next1_mem.1 (List.mem_of_getElem? hx)⟩
    · rcases h.met z hz with ⟨q, y, _, _, e, _⟩ | g
      · exact ⟨y, e⟩
      · exact ⟨_, next1_mem.1 (List.mem_of_mem_take g)⟩
theorem head_drop {α : Type} {l : List α} {x : α} (h : l[((0 : Int)).toNat]? = some x) : l = x :: l.drop 1 := by
  cases l with
  | nil => simp at h
  | cons y t => obtain rfl : y = x := by simpa using h
                rfl
theorem wy_pos {l : Edges} {a : Int} {w : List Int} (h : Wy l a w) : 1 ≤ w.length := by
  obtain ⟨r, rfl, _⟩ := h; simp
/-- a way as it lies in a row of ways -/
def wyV (q : (Option Addr × Nat) × List Int) : Value := .slice q.1.1 q.2.length q.1.2
theorem one_wyV (l : List ((Option Addr × Nat) × List Int)) : ∀ u ∈ l.map wyV, u.oneCell' = true := by intro u hu; obtain ⟨x, _, rfl⟩ := List.mem_map.1 hu; rfl
end Go.Q
