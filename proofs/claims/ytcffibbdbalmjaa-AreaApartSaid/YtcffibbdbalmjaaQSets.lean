/-
  Sets of numbers: the plain laws of NumsSets.
-/
import Derived.Test.YtcffibbdbalmjaaQDel
import Derived.Test.YtcffibbdbalmjaaQI
import Derived.Test.YtcffibbdbalmjaaQX
set_option linter.unusedVariables false
set_option linter.unusedSimpArgs false
namespace Go.Q
/-- ref.With: d: 'it is in already' -/
def withS (n : Int) : Bool → List Int → List Int
  | d, [] => if d then [] else [n]
  | d, x :: l => (if d = false ∧ n ≤ x then [n] else []) ++ (if x ≠ n then [x] else []) ++ withS n (d || decide (n ≤ x)) l
theorem withS_true (n : Int) : ∀ l : List Int, withS n true l = l.filter (fun x => decide (x ≠ n))
  | [] => rfl
  | x :: l => by
    rw [withS, Bool.true_or, withS_true n l, if_neg (by simp), List.nil_append]
    by_cases h : x = n
    · simp [h]
    · simp [h]
theorem withS_mem (n a : Int) : ∀ l : List Int, a ∈ withS n false l ↔ a = n ∨ a ∈ l
  | [] => by simp [withS]
  | x :: l => by
    rw [withS, Bool.false_or]
    by_cases h : n ≤ x
    · rw [decide_eq_true h, withS_true, if_pos ⟨rfl, h⟩]
      by_cases e : x = n
      · subst e; simp; grind
      · simp [e]; grind
    · rw [decide_eq_false h, if_neg (fun g => h g.2), if_pos (by omega)]
      simp [withS_mem n a l]; grind
theorem withS_sorted (n : Int) : ∀ l : List Int, l.Pairwise (· < ·) → (withS n false l).Pairwise (· < ·)
  | [], _ => by simp [withS]
  | x :: l, h => by
    have h2 := List.pairwise_cons.1 h
    rw [withS, Bool.false_or]
    by_cases g : n ≤ x
    · rw [decide_eq_true g, withS_true, if_pos ⟨rfl, g⟩]
      have hf := h2.2.filter (fun y => decide (y ≠ n))
      by_cases e : x = n
      · subst e; simp only [ne_eq, not_true, if_false, List.append_nil, List.singleton_append]
        exact List.pairwise_cons.2 ⟨fun a ha => h2.1 a ((List.mem_filter.1 ha).1), hf⟩
      · rw [if_pos e]
        refine List.pairwise_cons.2 ⟨fun a ha => ?_, List.pairwise_cons.2 ⟨fun a ha => h2.1 a ((List.mem_filter.1 ha).1), hf⟩⟩
        rcases List.mem_cons.1 ha with rfl | ha
        · omega
        · have := h2.1 a ((List.mem_filter.1 ha).1); omega
    · rw [decide_eq_false g, if_neg (fun k => g k.2), if_pos (by omega)]
      refine List.pairwise_cons.2 ⟨fun a ha => ?_, withS_sorted n l h2.2⟩
      rcases (withS_mem n a l).1 ha with rfl | ha
      · omega
      · exact h2.1 a ha
theorem withS_len (n : Int) : ∀ l : List Int, l.Pairwise (· < ·) → (withS n false l).length = l.length + (if n ∈ l then 0 else 1) ∧ (withS n true l).length + (if n ∈ l then 1 else 0) = l.length
  | [], _ => by simp [withS]
  | x :: l, h => by
    have h2 := List.pairwise_cons.1 h
    obtain ⟨i1, i2⟩ := withS_len n l h2.2
    rw [withS, withS, Bool.false_or, Bool.true_or]
    by_cases e : x = n
    · subst e
      have hn : x ∉ l := fun g => by have := h2.1 x g; omega
      rw [if_neg hn] at i1 i2
      simp; omega
    · have hm : n ∈ x :: l ↔ n ∈ l := by simp; omega
      simp only [hm, List.length_cons, if_pos e]
      by_cases g : n ≤ x
      · have hn : n ∉ l := fun k => by have := h2.1 n k; omega
        rw [decide_eq_true g, if_neg hn, if_neg hn, if_pos (by simp [g])]
        rw [if_neg hn] at i2
        simp; omega
      · rw [decide_eq_false g, if_neg (fun k => g k.2)]
        simp; omega
theorem with_step {n : Int} {b d : Bool} {l acc : List Int} {k : Nat} {x : Int} (h : withS n b l = acc ++ withS n d (l.drop k)) (hx : l[k]? = some x) :
    withS n b l = acc ++ ((if d = false ∧ n ≤ x then [n] else []) ++ (if x ≠ n then [x] else [])) ++ withS n (d || decide (n ≤ x)) (l.drop (k + 1)) := by
  rw [h, drop_of hx, withS]; simp [List.append_assoc]
/-- what With leaves, both ways -/
theorem with_mem {n a : Int} {b : Bool} {l : List Int} : a ∈ withS n (!b) l ↔ (if b = true then a = n ∨ a ∈ l else a ∈ l ∧ a ≠ n) := by
  cases b with
  | true => rw [if_pos rfl]; exact withS_mem n a l
  | false => rw [if_neg (by decide)]; show a ∈ withS n true l ↔ _; rw [withS_true]; simp
theorem with_sorted {n : Int} {b : Bool} {l : List Int} (h : l.Pairwise (· < ·)) : (withS n (!b) l).Pairwise (· < ·) := by
  cases b with
  | true => exact withS_sorted n l h
  | false => show (withS n true l).Pairwise _; rw [withS_true]; exact h.filter _
/-- the first and the last one, or 0 -/
def firstS (l : List Int) : Int := (l[0]?).getD 0
def lastS (l : List Int) : Int := (l[l.length - 1]?).getD 0
theorem firstS_of {l : List Int} {x : Int} (h : l[0]? = some x) : firstS l = x := by rw [firstS, h]; rfl
theorem lastS_of {l : List Int} {x : Int} {k : Nat} (h : l[k]? = some x) (hk : k = l.length - 1) : lastS l = x := by subst hk; rw [lastS, h]; rfl
theorem ends_nil {l : List Int} (h : l.length = 0) : firstS l = 0 ∧ lastS l = 0 := by
  obtain rfl := List.eq_nil_of_length_eq_zero h; exact ⟨rfl, rfl⟩
/-- what isn't below one -/
theorem from_eq {l : List Int} {p : Nat} {x : Int} (h1 : ∀ a ∈ l.take p, a < x) (h2 : ∀ a ∈ l.drop p, x ≤ a) : l.drop p = l.filter (fun a => decide (x ≤ a)) := by
  conv => rhs; rw [← List.take_append_drop p l, List.filter_append]
  rw [List.filter_eq_nil_iff.2 (fun a ha => by have := h1 a ha; simp; omega), List.nil_append, List.filter_eq_self.2 (fun a ha => by have := h2 a ha; simp; omega)]
/-- taking out the one that is there -/
theorem del_facts {now : List Int} {p : Nat} {x : Int} (hs : now.Pairwise (· < ·)) (h1 : ∀ a ∈ now.take p, a < x) (h2 : ∀ a ∈ now.drop p, x ≤ a) (hx : x ∈ now) :
    p < now.length ∧ (now.take p ++ now.drop (p + 1)).Pairwise (· < ·) ∧ (∀ a, a ∈ now.take p ++ now.drop (p + 1) ↔ a ∈ now ∧ a ≠ x) := by
  have hd : x ∈ now.drop p := by
    rcases List.mem_append.1 (by rw [List.take_append_drop p now]; exact hx : x ∈ now.take p ++ now.drop p) with g | g
    · exact absurd (h1 x g) (by omega)
    · exact g
  have hp : p < now.length := by
    rcases Nat.lt_or_ge p now.length with g | g
    · exact g
    · rw [List.drop_of_length_le g] at hd; simp at hd
  obtain ⟨y, hy⟩ : ∃ y, now[p]? = some y := ⟨_, List.getElem?_eq_getElem hp⟩
  have hdr := drop_of hy
  have hs2 : (now.drop p).Pairwise (· < ·) := hs.sublist (List.drop_sublist ..)
  rw [hdr] at hs2 h2 hd
  have h3 := List.pairwise_cons.1 hs2
  have hyx : y = x := by
    rcases List.mem_cons.1 hd with g | g
    · exact g.symm
    · have a1 := h3.1 x g; have a2 := h2 y (List.mem_cons_self ..); omega
  subst hyx
  have hall : now = now.take p ++ (y :: now.drop (p + 1)) := by rw [← hdr, List.take_append_drop]
  refine ⟨hp, ?_, fun a => ?_⟩
  · refine hs.sublist ?_
    conv => rhs; rw [hall]
    exact (List.Sublist.refl _).append (List.sublist_cons_self ..)
  · conv => rhs; rw [hall]
    simp only [List.mem_append, List.mem_cons]
    constructor
    · rintro (g | g)
      · exact ⟨.inl g, by have := h1 a g; omega⟩
      · exact ⟨.inr (.inr g), by have := h3.1 a g; omega⟩
    · rintro ⟨g | g | g, n⟩
      · exact .inl g
      · exact absurd g n
      · exact .inr g
theorem mem_step_out {now cur l : List Int} {k : Nat} {x : Int} (hm : ∀ a, a ∈ cur ↔ a ∈ now ∧ a ∉ l.take k) (hx : l[k]? = some x) (h : x ∉ cur) : ∀ a, a ∈ cur ↔ a ∈ now ∧ a ∉ l.take (k + 1) := by
  intro a; rw [take_succ_of hx, List.mem_append, List.mem_singleton]
  constructor
  · intro g; exact ⟨((hm a).1 g).1, fun q => q.elim ((hm a).1 g).2 fun e => h (e ▸ g)⟩
  · rintro ⟨g1, g2⟩; exact (hm a).2 ⟨g1, fun q => g2 (.inl q)⟩
theorem mem_step_del {now cur cur2 l : List Int} {k : Nat} {x : Int} (hm : ∀ a, a ∈ cur ↔ a ∈ now ∧ a ∉ l.take k) (hx : l[k]? = some x) (h : ∀ a, a ∈ cur2 ↔ a ∈ cur ∧ a ≠ x) : ∀ a, a ∈ cur2 ↔ a ∈ now ∧ a ∉ l.take (k + 1) := by
  intro a; rw [take_succ_of hx, List.mem_append, List.mem_singleton, h a, hm a]
  constructor
  · rintro ⟨⟨g1, g2⟩, g3⟩; exact ⟨g1, fun q => q.elim g2 g3⟩
  · rintro ⟨g1, g2⟩; exact ⟨⟨g1, fun q => g2 (.inl q)⟩, fun e => g2 (.inr e)⟩
/-- an act of NumsSets -/
structure SAct where
  kind : Int
  v : Value
  ml : List Int
def saC (a : SAct) : List Value := [iV a.kind, a.v]
theorem saC_len (a : SAct) : (saC a).length = 2 := rfl
def SActOk (R : List Hp) (a : SAct) : Prop := ((-9223372036854775808 : Int) ≤ a.kind ∧ a.kind ≤ 9223372036854775807) ∧ Ints R a.v a.ml ∧ ∀ x ∈ a.ml, (-9223372036854775808 : Int) ≤ x ∧ x ≤ 9223372036854775807
/-- the numbers of acts so far, in both words: how many answers differ -/
theorem act_step {now0 cur : List Int} {b : Bool} {x : Int} {n : Int} (hs : cur.Pairwise (· < ·)) (hn : n = if b = true then (cur.length : Int) - now0.length else (now0.length : Int) - cur.length) :
    (if decide (x ∈ cur) ≠ b then n + 1 else n) = (if b = true then ((withS x (!b) cur).length : Int) - now0.length else (now0.length : Int) - (withS x (!b) cur).length) := by
  obtain ⟨i1, i2⟩ := withS_len x cur hs
  cases b with
  | true =>
    simp only [if_true] at hn ⊢
    show _ = ((withS x false cur).length : Int) - _
    by_cases h : x ∈ cur
    · rw [if_pos h] at i1; simp [h]; omega
    · rw [if_neg h] at i1; simp [h]; omega
  | false =>
    simp only [Bool.false_eq_true, if_false] at hn ⊢
    show _ = _ - ((withS x true cur).length : Int)
    by_cases h : x ∈ cur
    · rw [if_pos h] at i2; simp [h]; omega
    · rw [if_neg h] at i2; simp [h]; omega
theorem act_mem {now0 cur l : List Int} {k : Nat} {b : Bool} {x : Int} (hm : ∀ a, a ∈ cur ↔ (if b = true then a ∈ now0 ∨ a ∈ l.take k else a ∈ now0 ∧ a ∉ l.take k)) (hx : l[k]? = some x) :
    ∀ a, a ∈ withS x (!b) cur ↔ (if b = true then a ∈ now0 ∨ a ∈ l.take (k + 1) else a ∈ now0 ∧ a ∉ l.take (k + 1)) := by
  intro a
  rw [with_mem, take_succ_of hx, List.mem_append, List.mem_singleton]
  have h := hm a
  cases b with
  | true => simp only [if_true] at h ⊢; rw [h]; constructor <;> (intro g; rcases g with g | g | g <;> simp [g])
  | false =>
    simp only [Bool.false_eq_true, if_false] at h ⊢; rw [h]
    constructor
    · rintro ⟨⟨g1, g2⟩, g3⟩; exact ⟨g1, fun q => q.elim g2 g3⟩
    · rintro ⟨g1, g2⟩; exact ⟨⟨g1, fun q => g2 (.inl q)⟩, fun e => g2 (.inr e)⟩
theorem withS_le (n : Int) : ∀ (d : Bool) (l : List Int), (withS n d l).length ≤ l.length + (if d then 0 else 1)
  | d, [] => by cases d <;> simp [withS]
  | d, x :: l => by
    have h1 := withS_le n true l
    have h2 := withS_le n false l
    simp only [if_true, Bool.false_eq_true, if_false] at h1 h2
    rw [withS]
    cases d with
    | true => by_cases e : x = n <;> simp [e] <;> omega
    | false =>
      by_cases g : n ≤ x
      · by_cases e : x = n
        · subst e; simp; omega
        · simp [e, g]; omega
      · have e : x ≠ n := by omega
        simp [e, g]; omega
theorem withS_le1 (n : Int) (d : Bool) (l : List Int) : (withS n d l).length ≤ l.length + 1 := by
  have := withS_le n d l; split at this <;> omega
theorem first_mem {wl l : List Int} {k : Nat} {x : Int} (hm : ∀ a, a ∈ wl ↔ a ∈ l.take k) (hx : l[k]? = some x) : ∀ a, a ∈ withS x (!true) wl ↔ a ∈ l.take (k + 1) := by
  intro a; rw [with_mem, if_pos rfl, take_succ_of hx, List.mem_append, List.mem_singleton, hm a]; exact Or.comm
def allIn (l cur : List Int) : Bool := decide (∀ a ∈ l, a ∈ cur)
theorem all_step {ask cur : List Int} {k : Nat} {x : Int} {al : Bool} (h : al = allIn (ask.take k) cur) (hx : ask[k]? = some x) : (al && decide (x ∈ cur)) = allIn (ask.take (k + 1)) cur := by
  rw [h, take_succ_of hx]
  unfold allIn
  rw [← Bool.decide_and]
  refine decide_eq_decide.2 ?_
  simp only [List.mem_append, List.mem_singleton]
  constructor
  · rintro ⟨g1, g2⟩ a (g | rfl)
    · exact g1 a g
    · exact g2
  · intro g; exact ⟨fun a ha => g a (.inl ha), g x (.inr rfl)⟩
theorem neq_of {a b : Bool} (h : (!(a == b)) = true) : a ≠ b := by simpa using h
theorem eq_of {a b : Bool} (h : (!(a == b)) = false) : ¬ a ≠ b := by simpa using h
theorem len_pos_b {l : List Int} : decide (0 < ((l.length : Nat) : Int)) = decide (0 < l.length) := decide_eq_decide.2 (by omega)
theorem filt_step {cur sm : List Int} {k : Nat} {x fr : Int} (h : sm = (cur.take k).filter (fun a => decide (fr ≤ a))) (hx : cur[k]? = some x) : (if fr ≤ x then sm ++ [x] else sm) = (cur.take (k + 1)).filter (fun a => decide (fr ≤ a)) := by
  rw [take_succ_of hx, List.filter_append, ← h]; by_cases g : fr ≤ x <;> simp [g]
theorem act_end_add {now0 cur now' l : List Int} (h1 : cur.Pairwise (· < ·)) (h2 : now'.Pairwise (· < ·)) (hm : ∀ a, a ∈ cur ↔ (if true = true then a ∈ now0 ∨ a ∈ l.take l.length else a ∈ now0 ∧ a ∉ l.take l.length)) (hm2 : ∀ a, a ∈ now' ↔ a ∈ now0 ∨ a ∈ l) : cur = now' :=
  sorted_eq h1 h2 fun a => by rw [hm, hm2, if_pos rfl, List.take_length]
theorem act_end_drop {now0 cur now' l : List Int} (h1 : cur.Pairwise (· < ·)) (h2 : now'.Pairwise (· < ·)) (hm : ∀ a, a ∈ cur ↔ (if false = true then a ∈ now0 ∨ a ∈ l.take l.length else a ∈ now0 ∧ a ∉ l.take l.length)) (hm2 : ∀ a, a ∈ now' ↔ a ∈ now0 ∧ a ∉ l) : cur = now' :=
  sorted_eq h1 h2 fun a => by rw [hm, hm2, if_neg (by decide), List.take_length]
end Go.Q
