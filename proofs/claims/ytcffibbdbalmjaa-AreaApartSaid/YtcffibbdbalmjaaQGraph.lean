/-
  Layer 15: edges; where they lead, at once and at all.
-/
import Derived.Test.YtcffibbdbalmjaaQSets
set_option linter.unusedVariables false
set_option linter.unusedSimpArgs false
namespace Go.Q
abbrev Edges := List (Int × Int)
/-- where edges lead from some numbers, rising -/
def nextS (l : Edges) (fr : List Int) : List Int := (l.filter (fun e => decide (e.1 ∈ fr))).foldl (fun acc e => withS e.2 false acc) []
theorem foldW_sorted : ∀ (l : Edges) (acc : List Int), acc.Pairwise (· < ·) → (l.foldl (fun acc e => withS e.2 false acc) acc).Pairwise (· < ·)
  | [], _, h => h
  | e :: l, acc, h => foldW_sorted l _ (withS_sorted e.2 acc h)
theorem foldW_mem (a : Int) : ∀ (l : Edges) (acc : List Int), a ∈ l.foldl (fun acc e => withS e.2 false acc) acc ↔ a ∈ acc ∨ ∃ e ∈ l, e.2 = a
  | [], acc => by simp
  | e :: l, acc => by
    rw [List.foldl_cons, foldW_mem a l, withS_mem]
    simp only [List.mem_cons, exists_eq_or_imp]
    constructor
    · rintro ((h | h) | h)
      · exact .inr (.inl h.symm)
      · exact .inl h
      · exact .inr (.inr h)
    · rintro (h | h | h)
      · exact .inl (.inr h)
      · exact .inl (.inl h.symm)
      · exact .inr h
theorem nextS_sorted (l : Edges) (fr : List Int) : (nextS l fr).Pairwise (· < ·) := foldW_sorted _ _ List.Pairwise.nil
theorem nextS_mem {l : Edges} {fr : List Int} {a : Int} : a ∈ nextS l fr ↔ ∃ x ∈ fr, (x, a) ∈ l := by
  unfold nextS
  rw [foldW_mem]
  simp only [List.not_mem_nil, false_or, List.mem_filter, decide_eq_true_eq]
  constructor
  · rintro ⟨⟨x, y⟩, ⟨h1, h2⟩, rfl⟩; exact ⟨x, h2, h1⟩
  · rintro ⟨x, h1, h2⟩; exact ⟨(x, a), ⟨h2, h1⟩, rfl⟩
theorem next1_mem {l : Edges} {x a : Int} : a ∈ nextS l [x] ↔ (x, a) ∈ l := by rw [nextS_mem]; simp
/-- a sorted list within another one is no longer -/
theorem len_of_sub : ∀ (a b : List Int), a.Pairwise (· < ·) → (∀ x ∈ a, x ∈ b) → a.length ≤ b.length
  | [], _, _, _ => Nat.zero_le _
  | x :: a, b, h, hs => by
    have h2 := List.pairwise_cons.1 h
    have hx := hs x (List.mem_cons_self ..)
    have := len_of_sub a (b.erase x) h2.2 fun y hy => (List.mem_erase_of_ne (by have := h2.1 y hy; omega)).2 (hs y (List.mem_cons_of_mem _ hy))
    rw [List.length_erase_of_mem hx] at this
    have : 0 < b.length := List.length_pos_of_mem hx
    rw [List.length_cons]; omega
theorem len_snd {l : Edges} {a : List Int} (h : a.Pairwise (· < ·)) (hs : ∀ x ∈ a, ∃ y, (y, x) ∈ l) : a.length ≤ l.length := by
  have := len_of_sub a (l.map (·.2)) h fun x hx => by obtain ⟨y, hy⟩ := hs x hx; exact List.mem_map.2 ⟨_, hy, rfl⟩
  rwa [List.length_map] at this
theorem nextS_len (l : Edges) (fr : List Int) : (nextS l fr).length ≤ l.length :=
  len_snd (nextS_sorted l fr) fun x hx => by obtain ⟨y, _, h⟩ := nextS_mem.1 hx; exact ⟨y, h⟩
/-- there is a way of one edge, or of more -/
inductive Leads (l : Edges) : Int → Int → Prop
  | one {a b : Int} : (a, b) ∈ l → Leads l a b
  | more {a b c : Int} : (a, b) ∈ l → Leads l b c → Leads l a c
theorem Leads.snoc {l : Edges} {a b c : Int} (h : Leads l a b) (e : (b, c) ∈ l) : Leads l a c := by
  induction h with
  | one h => exact .more h (.one e)
  | more h _ ih => exact .more h (ih e)
/-- all to which there is a way: what holds what is next and is closed -/
theorem leads_closed {l : Edges} {fr s : List Int} (h0 : ∀ x ∈ fr, ∀ y, (x, y) ∈ l → y ∈ s) (h1 : ∀ x ∈ s, ∀ y, (x, y) ∈ l → y ∈ s) {x y : Int} (hx : x ∈ fr) (h : Leads l x y) : y ∈ s := by
  have key : ∀ a b, Leads l a b → (a ∈ s → b ∈ s) := fun a b h => by
    induction h with
    | one h => exact fun g => h1 _ g _ h
    | more h _ ih => exact fun g => ih (h1 _ g _ h)
  cases h with
  | one h => exact h0 x hx _ h
  | more h h2 => exact key _ _ h2 (h0 x hx _ h)
/-- ref.Reach: k rounds more -/
def joinS (more out : List Int) : List Int := more.foldl (fun acc x => withS x false acc) out
theorem joinS_sorted : ∀ (m o : List Int), o.Pairwise (· < ·) → (joinS m o).Pairwise (· < ·)
  | [], _, h => h
  | x :: m, o, h => joinS_sorted m _ (withS_sorted x o h)
theorem joinS_mem (a : Int) : ∀ (m o : List Int), a ∈ joinS m o ↔ a ∈ o ∨ a ∈ m
  | [], o => by simp [joinS]
  | x :: m, o => by
    show a ∈ joinS m (withS x false o) ↔ _
    rw [joinS_mem a m, withS_mem, List.mem_cons]
    constructor
    · rintro ((h | h) | h)
      · exact .inr (.inl h)
      · exact .inl h
      · exact .inr (.inr h)
    · rintro (h | h | h)
      · exact .inl (.inr h)
      · exact .inl (.inl h)
      · exact .inr h
def roundS (l : Edges) : Nat → List Int → List Int
  | 0, o => o
  | k + 1, o => roundS l k (joinS (nextS l o) o)
def reachS (l : Edges) (fr : List Int) : List Int := roundS l (l.length + 1) (nextS l fr)
theorem round_sorted (l : Edges) : ∀ (k : Nat) (o : List Int), o.Pairwise (· < ·) → (roundS l k o).Pairwise (· < ·)
  | 0, _, h => h
  | k + 1, o, h => round_sorted l k _ (joinS_sorted _ _ h)
theorem reach_sorted (l : Edges) (fr : List Int) : (reachS l fr).Pairwise (· < ·) := round_sorted _ _ _ (nextS_sorted _ _)
theorem round_keep (l : Edges) : ∀ (k : Nat) (o : List Int), joinS (nextS l o) o = o → roundS l k o = o
  | 0, _, _ => rfl
  | k + 1, o, h => by rw [roundS, h]; exact round_keep l k o h
/-- it stands still, or it has grown by one a round -/
theorem round_grows (l : Edges) : ∀ (k : Nat) (o : List Int), o.Pairwise (· < ·) → joinS (nextS l (roundS l k o)) (roundS l k o) = roundS l k o ∨ o.length + k ≤ (roundS l k o).length
  | 0, o, _ => .inr (Nat.le_refl _)
  | k + 1, o, h => by
    by_cases e : joinS (nextS l o) o = o
    · left; rw [round_keep l (k + 1) o e]; exact e
    · have hj := joinS_sorted (nextS l o) o h
      have hlt : o.length + 1 ≤ (joinS (nextS l o) o).length := by
        have h1 := len_of_sub o (joinS (nextS l o) o) h (fun x hx => (joinS_mem x _ _).2 (.inl hx))
        rcases Nat.lt_or_ge o.length (joinS (nextS l o) o).length with g | g
        · exact g
        · exfalso
          apply e
          refine sorted_eq hj h fun x => ⟨fun hx => ?_, fun hx => (joinS_mem x _ _).2 (.inl hx)⟩
          refine Classical.byContradiction fun hn => ?_
          have h2 := len_of_sub (withS x false o) _ (withS_sorted x o h) (fun y hy => by
            rcases (withS_mem x y o).1 hy with rfl | hy
            · exact hx
            · exact (joinS_mem y _ _).2 (.inl hy))
          have h3 := (withS_len x o h).1
          rw [if_neg hn] at h3; omega
      rcases round_grows l k _ hj with g | g
      · exact .inl g
      · right; rw [roundS]; omega
theorem round_sub {l : Edges} {P : Int → Prop} (hc : ∀ x y, P x → (x, y) ∈ l → P y) : ∀ (k : Nat) (o : List Int), (∀ x ∈ o, P x) → ∀ x ∈ roundS l k o, P x
  | 0, _, h => h
  | k + 1, o, h => round_sub hc k _ fun x hx => by
    rcases (joinS_mem x _ _).1 hx with g | g
    · exact h x g
    · obtain ⟨y, hy, he⟩ := nextS_mem.1 g; exact hc y x (h y hy) he
theorem round_mono {l : Edges} : ∀ (k : Nat) (o : List Int), ∀ x ∈ o, x ∈ roundS l k o
  | 0, _, _, h => h
  | k + 1, o, x, h => round_mono k _ x ((joinS_mem x _ _).2 (.inl h))
theorem reach_mem {l : Edges} {fr : List Int} {a : Int} : a ∈ reachS l fr ↔ ∃ x ∈ fr, Leads l x a := by
  constructor
  · intro h
    refine round_sub (l := l) (P := fun a => ∃ x ∈ fr, Leads l x a) (fun x y ⟨z, hz, g⟩ e => ⟨z, hz, g.snoc e⟩) _ _ (fun x hx => ?_) a h
    obtain ⟨y, hy, e⟩ := nextS_mem.1 hx; exact ⟨y, hy, .one e⟩
  · rintro ⟨x, hx, h⟩
    have hs := reach_sorted l fr
    have hfix : joinS (nextS l (reachS l fr)) (reachS l fr) = reachS l fr := by
      rcases round_grows l (l.length + 1) (nextS l fr) (nextS_sorted _ _) with g | g
      · exact g
      · exfalso
        have : (reachS l fr).length ≤ l.length := len_snd hs fun x hx => by
          refine round_sub (l := l) (P := fun a => ∃ y, (y, a) ∈ l) (fun x y _ e => ⟨x, e⟩) _ _ (fun x hx => ?_) x hx
          obtain ⟨y, _, e⟩ := nextS_mem.1 hx; exact ⟨y, e⟩
        unfold reachS at this; omega
    refine leads_closed (fr := fr) (s := reachS l fr) (fun x hx y e => round_mono _ _ y (nextS_mem.2 ⟨x, hx, e⟩)) (fun x hx y e => ?_) hx h
    rw [← hfix]; exact (joinS_mem y _ _).2 (.inr (nextS_mem.2 ⟨x, hx, e⟩))
theorem reach_len (l : Edges) (fr : List Int) : (reachS l fr).length ≤ l.length :=
  len_snd (reach_sorted l fr) fun x hx => by
    obtain ⟨y, _, h⟩ := reach_mem.1 hx
    have : ∀ a b, Leads l a b → ∃ y, (y, b) ∈ l := fun a b h => by
      induction h with
      | one h => exact ⟨_, h⟩
      | more _ _ ih => exact ih
    exact this _ _ h
theorem next_yes {l : Edges} {k : Nat} {x : Int × Int} {fr : List Int} (hx : l[k]? = some x) (h : x.1 ∈ fr) : nextS (l.take (k + 1)) fr = withS x.2 false (nextS (l.take k) fr) := by
  unfold nextS; rw [take_succ_of hx, List.filter_append, List.foldl_append]; simp [h]
theorem next_no {l : Edges} {k : Nat} {x : Int × Int} {fr : List Int} (hx : l[k]? = some x) (h : x.1 ∉ fr) : nextS (l.take (k + 1)) fr = nextS (l.take k) fr := by
  unfold nextS; rw [take_succ_of hx, List.filter_append, List.foldl_append]; simp [h]
/-- a set that has taken one more -/
theorem set_with {cur now' : List Int} {x : Int} (h1 : cur.Pairwise (· < ·)) (h2 : now'.Pairwise (· < ·)) (hm : ∀ a, a ∈ now' ↔ a ∈ cur ∨ a ∈ [x]) : now' = withS x false cur :=
  sorted_eq h2 (withS_sorted x cur h1) fun a => by rw [hm, withS_mem, List.mem_singleton]; exact Or.comm
/-- graph.Reach under way: cur is what was met, td what is still to be looked at -/
structure RI (l : Edges) (fr cur td : List Int) : Prop where
  sorted : cur.Pairwise (· < ·)
  c1 : ∀ a ∈ cur, ∃ x ∈ fr, Leads l x a
  t1 : ∀ a ∈ td, ∃ x ∈ fr, Leads l x a
  base : ∀ x ∈ fr, ∀ y, (x, y) ∈ l → y ∈ cur ∨ y ∈ td
  closed : ∀ x ∈ cur, ∀ y, (x, y) ∈ l → y ∈ cur ∨ y ∈ td
theorem RI.start (l : Edges) (fr : List Int) : RI l fr [] (nextS l fr) :=
  ⟨List.Pairwise.nil, fun a h => absurd h (by simp), fun a h => by obtain ⟨x, hx, e⟩ := nextS_mem.1 h; exact ⟨x, hx, .one e⟩, fun x hx y e => .inr (nextS_mem.2 ⟨x, hx, e⟩), fun x h => absurd h (by simp)⟩
theorem td_head {td : List Int} {x : Int} (hx : td[0]? = some x) {y : Int} (h : y ∈ td) : y = x ∨ y ∈ td.drop 1 := by
  cases td with
  | nil => simp at h
  | cons z t =>
    obtain rfl : z = x := by simpa using hx
    rcases List.mem_cons.1 h with h | h
    · exact .inl h
    · exact .inr h
theorem RI.next {l : Edges} {fr cur td more : List Int} {x : Int} (h : RI l fr cur td) (hx : td[0]? = some x) (hm : ∀ y ∈ more, (x, y) ∈ l) (hn : x ∈ cur ∨ ∀ y, (x, y) ∈ l → y ∈ more) : RI l fr (withS x false cur) ((td ++ more).drop 1) := by
  have hxt : x ∈ td := List.mem_of_getElem? hx
  have hlt : 1 ≤ td.length := List.length_pos_of_mem hxt
  have ed : (td ++ more).drop 1 = td.drop 1 ++ more := by rw [List.drop_append, show 1 - td.length = 0 by omega, List.drop_zero]
  have old : ∀ y, y ∈ cur ∨ y ∈ td → y ∈ withS x false cur ∨ y ∈ (td ++ more).drop 1 := fun y hy => by
    rw [ed, List.mem_append, withS_mem]
    rcases hy with g | g
    · exact .inl (.inr g)
    · rcases td_head hx g with rfl | g
      · exact .inl (.inl rfl)
      · exact .inr (.inl g)
  refine ⟨withS_sorted x cur h.sorted, fun a ha => ?_, fun a ha => ?_, fun z hz y e => old y (h.base z hz y e), fun z hz y e => ?_⟩
  · rcases (withS_mem x a cur).1 ha with rfl | ha
    · exact h.t1 _ hxt
    · exact h.c1 a ha
  · rw [ed] at ha
    rcases List.mem_append.1 ha with g | g
    · exact h.t1 a (List.mem_of_mem_drop g)
    · obtain ⟨z, hz, gz⟩ := h.t1 x hxt; exact ⟨z, hz, gz.snoc (hm a g)⟩
  · rcases (withS_mem x z cur).1 hz with rfl | hz
    · rcases hn with hn | hn
      · exact old y (h.closed z hn y e)
      · exact .inr (by rw [ed]; exact List.mem_append_right _ (hn y e))
    · exact old y (h.closed z hz y e)
theorem with_old {x : Int} {cur : List Int} (hs : cur.Pairwise (· < ·)) (h : ¬ (0 : Int) < ((withS x false cur).length : Int) - (cur.length : Int)) : x ∈ cur :=
  Classical.byContradiction fun n => by have := (withS_len x cur hs).1; rw [if_neg n] at this; omega
theorem with_new {x : Int} {cur : List Int} (hs : cur.Pairwise (· < ·)) (h : (0 : Int) < ((withS x false cur).length : Int) - (cur.length : Int)) : x ∉ cur ∧ (withS x false cur).length = cur.length + 1 := by
  have := (withS_len x cur hs).1
  by_cases n : x ∈ cur
  · rw [if_pos n] at this; omega
  · rw [if_neg n] at this; exact ⟨n, this⟩
theorem RI.old {l : Edges} {fr cur td : List Int} {x : Int} (h : RI l fr cur td) (hx : td[0]? = some x) (g : ¬ (0 : Int) < ((withS x false cur).length : Int) - (cur.length : Int)) : RI l fr (withS x false cur) (td.drop 1) := by
  have := h.next (more := []) hx (by simp) (.inl (with_old h.sorted g))
  simpa using this
theorem RI.new {l : Edges} {fr cur td : List Int} {x : Int} (h : RI l fr cur td) (hx : td[0]? = some x) : RI l fr (withS x false cur) ((td ++ nextS l [x]).drop 1) :=
  h.next hx (fun y hy => next1_mem.1 hy) (.inr fun y e => next1_mem.2 e)
theorem RI.done {l : Edges} {fr cur td : List Int} (h : RI l fr cur td) (ht : td.length = 0) : cur = reachS l fr := by
  obtain rfl := List.eq_nil_of_length_eq_zero ht
  refine sorted_eq h.sorted (reach_sorted l fr) fun a => ⟨fun ha => reach_mem.2 (h.c1 a ha), fun ha => ?_⟩
  obtain ⟨x, hx, g⟩ := reach_mem.1 ha
  exact leads_closed (fr := fr) (fun x hx y e => (h.base x hx y e).resolve_right (by simp)) (fun x hx y e => (h.closed x hx y e).resolve_right (by simp)) hx g
theorem RI.len {l : Edges} {fr cur td : List Int} (h : RI l fr cur td) : cur.length ≤ l.length :=
  len_snd h.sorted fun a ha => by
    obtain ⟨x, _, g⟩ := h.c1 a ha
    have : ∀ a b, Leads l a b → ∃ y, (y, b) ∈ l := fun a b h => by
      induction h with
      | one h => exact ⟨_, h⟩
      | more _ _ ih => exact ih
    exact this _ _ g
/-- how much there is to do -/
def rmeas (l : Edges) (c t : Nat) : Nat := (l.length - c) * (l.length + 1) + t
theorem rm_le (l : Edges) (c t : Nat) : t ≤ rmeas l c t := Nat.le_add_left _ _
theorem rm_start {l : Edges} (h : l.length ≤ 1000) (fr : List Int) : rmeas l ([] : List Int).length (nextS l fr).length ≤ 1002000 := by
  have h1 := nextS_len l fr
  have h2 : (l.length - 0) * (l.length + 1) ≤ 1000 * 1001 := Nat.mul_le_mul (by omega) (by omega)
  unfold rmeas; simp only [List.length_nil]; omega
theorem RI.lower {l : Edges} {fr cur td : List Int} {x : Int} (h : RI l fr cur td) (hx : td[0]? = some x) : rmeas l (withS x false cur).length (td.drop 1).length < rmeas l cur.length td.length ∧ ((0 : Int) < ((withS x false cur).length : Int) - (cur.length : Int) → rmeas l (withS x false cur).length ((td ++ nextS l [x]).drop 1).length < rmeas l cur.length td.length) := by
  have hlt : 1 ≤ td.length := List.length_pos_of_mem (List.mem_of_getElem? hx)
  have h1 := (withS_len x cur h.sorted).1
  constructor
  · unfold rmeas
    have : (l.length - (withS x false cur).length) * (l.length + 1) ≤ (l.length - cur.length) * (l.length + 1) := Nat.mul_le_mul_right _ (by split at h1 <;> omega)
    rw [List.length_drop]; omega
  · intro g
    have hn := (with_new h.sorted g).2
    have hc : (withS x false cur).length ≤ l.length := (h.new hx).len
    have h2 := nextS_len l [x]
    unfold rmeas
    rw [hn, List.length_drop, List.length_append]
    have e : l.length - cur.length = (l.length - (cur.length + 1)) + 1 := by omega
    rw [e, Nat.add_mul]; omega
theorem join_step {more out : List Int} {j : Nat} {x : Int} (hx : more[j]? = some x) : joinS (more.take (j + 1)) out = withS x false (joinS (more.take j) out) := by
  unfold joinS; rw [take_succ_of hx, List.foldl_append]; rfl
theorem round_step {l : Edges} {k : Nat} {out : List Int} (hk : k ≤ l.length) : roundS l (l.length + 1 - k) out = roundS l (l.length + 1 - (k + 1)) (joinS (nextS l out) out) := by
  rw [show l.length + 1 - k = (l.length + 1 - (k + 1)) + 1 by omega, roundS]
theorem joined_from {l : Edges} {out : List Int} (h : ∀ a ∈ out, ∃ y, (y, a) ∈ l) : ∀ a ∈ joinS (nextS l out) out, ∃ y, (y, a) ∈ l := fun a ha => by
  rcases (joinS_mem a _ _).1 ha with g | g
  · exact h a g
  · obtain ⟨y, _, e⟩ := nextS_mem.1 g; exact ⟨y, e⟩
theorem next_from (l : Edges) (fr : List Int) : ∀ a ∈ nextS l fr, ∃ y, (y, a) ∈ l := fun a ha => by obtain ⟨y, _, e⟩ := nextS_mem.1 ha; exact ⟨y, e⟩
/-- the fewest edges of a way -/
def stepsL (l : Edges) (to : Int) : Nat → Nat → List Int → Nat
  | 0, _, _ => 0
  | n + 1, k, now => if to ∈ nextS l now then k else stepsL l to n (k + 1) (nextS l now)
def stepsS (l : Edges) (a to : Int) : Nat := stepsL l to (l.length + 1) 1 [a]
theorem steps_go {l : Edges} {to : Int} {k : Nat} {now : List Int} (hk : k ≤ l.length + 1) (h : to ∉ nextS l now) : stepsL l to (l.length + 2 - k) k now = stepsL l to (l.length + 2 - (k + 1)) (k + 1) (nextS l now) := by
  rw [show l.length + 2 - k = (l.length + 2 - (k + 1)) + 1 by omega, stepsL, if_neg h]
theorem steps_hit {l : Edges} {to : Int} {k : Nat} {now : List Int} (hk : k ≤ l.length + 1) (h : to ∈ nextS l now) : stepsL l to (l.length + 2 - k) k now = k := by
  rw [show l.length + 2 - k = (l.length + 2 - (k + 1)) + 1 by omega, stepsL, if_pos h]
/-- ref.Way: behind the first number -/
def tailS (l : Edges) (to : Int) : Nat → Int → List Int
  | 0, _ => []
  | k + 1, cur => match (nextS l [cur]).find? (fun x => decide (stepsS l x to = k + 1)) with
    | some x => x :: tailS l to k x
    | none => tailS l to k cur
def rwayS (l : Edges) (a to : Int) : List Int := if stepsS l a to = 0 then [] else a :: tailS l to (stepsS l a to - 1) a
theorem find_at {p : Int → Bool} {x : Int} : ∀ {l : List Int} {j : Nat}, (∀ y ∈ l.take j, p y = false) → l[j]? = some x → p x = true → l.find? p = some x
  | [], _, _, h, _ => by simp at h
  | z :: l, 0, _, h, hp => by
    obtain rfl : z = x := by simpa using h
    rw [List.find?_cons, hp]
  | z :: l, j + 1, hn, h, hp => by
    rw [List.find?_cons, hn z (by simp), find_at (j := j) (fun y hy => hn y (by rw [List.take_succ_cons]; exact List.mem_cons_of_mem _ hy)) (by simpa using h) hp]
theorem tail_yes {l : Edges} {to cur x : Int} {k : Nat} (hk : 0 < k) (h : (nextS l [cur]).find? (fun x => decide (stepsS l x to = k)) = some x) : tailS l to k cur = x :: tailS l to (k - 1) x := by
  obtain ⟨m, rfl⟩ : ∃ m, k = m + 1 := ⟨k - 1, by omega⟩
  rw [tailS, h]; rfl
theorem tail_no {l : Edges} {to cur : Int} {k : Nat} (hk : 0 < k) (h : (nextS l [cur]).find? (fun x => decide (stepsS l x to = k)) = none) : tailS l to k cur = tailS l to (k - 1) cur := by
  obtain ⟨m, rfl⟩ : ∃ m, k = m + 1 := ⟨k - 1, by omega⟩
  rw [tailS, h]; rfl
theorem tail_len (l : Edges) (to : Int) : ∀ (k : Nat) (cur : Int), (tailS l to k cur).length ≤ k
  | 0, _ => Nat.le_refl _
  | k + 1, cur => by
    rw [tailS]
    split
    · rw [List.length_cons]; have := tail_len l to k ‹_›; omega
    · have := tail_len l to k cur; omega
theorem last_drop {out : List Int} {cur x : Int} (h : out.drop (out.length - 1) = [cur]) : (out ++ [x]).drop ((out ++ [x]).length - 1) = [x] := by
  rw [List.length_append, List.length_singleton, Nat.add_sub_cancel, List.drop_left]
theorem stepsL_le (l : Edges) (to : Int) : ∀ (n k : Nat) (now : List Int), stepsL l to n k now ≤ n + k
  | 0, _, _ => Nat.zero_le _
  | n + 1, k, now => by rw [stepsL]; split; omega; have := stepsL_le l to n (k + 1) (nextS l now); omega
theorem stepsS_le (l : Edges) (a to : Int) : stepsS l a to ≤ l.length + 2 := by have := stepsL_le l to (l.length + 1) 1 [a]; unfold stepsS; omega
end Go.Q
