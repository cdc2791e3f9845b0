/-
  A region that draws its order: each operation is shown for itself, wherever in the order it comes.
-/
import Derived.Test.YtcffibbdbalmjaaQE
set_option linter.unusedVariables false
set_option linter.unusedSimpArgs false
namespace Go.Q

def depsOf (ops : List Oper) (i : Nat) : List Nat := match ops[i]? with
  | some o => o.after.toList.filterMap fun e => if Region.binds .any e then some e.on else none
  | none => []
/-- Is j ahead of i? -/
def anc (ops : List Oper) : Nat → Nat → Nat → Bool
  | 0, _, _ => false
  | f + 1, i, j => (depsOf ops i).any fun d => d == j || anc ops f d j
def slot (r : Nat → Value) (o : Oper) : Value := match o.dst with | some t => r t | none => undef
/-- Is a region of that make: no guards, each slot written once, all edges lead back? -/
def flowOk (ops : List Oper) : Bool :=
  ((List.range ops.length).all fun i => match ops[i]? with
    | some o => o.guard.isNone && (depsOf ops i).all (fun d => decide (d < i)) && (List.range ops.length).all fun j => j == i || match ops[j]? with
      | some o' => o.dst.isNone || o'.dst != o.dst
      | none => true
    | none => true)
def puts (vs : Nat → Value) : List Oper → Nat → (Nat → Value) → (Nat → Value)
  | [], _, r => r
  | o :: l, i, r => puts vs l (i + 1) (match o.dst with | some t => upd r t (vs i) | none => r)

theorem puts_old (vs : Nat → Value) (l : List Oper) : ∀ (i : Nat) (r : Nat → Value) (t : Nat), (∀ o ∈ l, o.dst ≠ some t) → puts vs l i r t = r t := by
  induction l with
  | nil => intro i r t _; rfl
  | cons o l ih =>
    intro i r t h
    rw [puts, ih _ _ _ (fun o' ho => h o' (List.mem_cons_of_mem _ ho))]
    have := h o (List.mem_cons_self ..)
    cases hd : o.dst with
    | none => rfl
    | some d => rw [hd] at this; exact upd_ne _ _ (fun e => this (by rw [e]))
theorem puts_new (vs : Nat → Value) (l : List Oper) : ∀ (i k : Nat) (r : Nat → Value) (o : Oper) (t : Nat), l[k]? = some o → o.dst = some t →
    (∀ j o', l[j]? = some o' → j ≠ k → o'.dst ≠ some t) → puts vs l i r t = vs (i + k) := by
  induction l with
  | nil => intro i k r o t h; simp at h
  | cons o l ih =>
    intro i k r o' t h hd hne
    cases k with
    | zero =>
      simp at h; subst h
      rw [puts, hd, puts_old]
      · simp only [Nat.add_zero]; exact upd_same _ _ _
      · intro o' ho
        obtain ⟨j, hj⟩ := List.getElem?_of_mem ho
        exact hne (j + 1) o' (by simpa using hj) (by omega)
    | succ k =>
      rw [puts, ih (i + 1) k _ o' t (by simpa using h) hd (fun j o'' hj hjk => hne (j + 1) o'' (by simpa using hj) (by omega))]
      congr 1; omega

theorem flowOk_spec {ops : List Oper} (h : flowOk ops = true) {i : Nat} {o : Oper} (ho : ops[i]? = some o) :
    o.guard = none ∧ (∀ d ∈ depsOf ops i, d < i) ∧ ∀ j o' t, ops[j]? = some o' → j ≠ i → o.dst = some t → o'.dst ≠ some t := by
  unfold flowOk at h
  rw [List.all_eq_true] at h
  have hi : i < ops.length := (List.getElem?_eq_some_iff.1 ho).1
  have h1 := h i (List.mem_range.2 hi)
  simp only [ho, Bool.and_eq_true, List.all_eq_true, decide_eq_true_eq] at h1
  obtain ⟨⟨hg, hd⟩, hj⟩ := h1
  refine ⟨by simpa using hg, hd, fun j o' t hj' hne ht => ?_⟩
  have := hj j (List.mem_range.2 (List.getElem?_eq_some_iff.1 hj').1)
  simp only [hj', ht, Option.isNone_some, Bool.false_or, Bool.or_eq_true, beq_iff_eq, bne_iff_ne] at this
  rcases this with h | h
  · exact absurd h hne
  · exact h

theorem anc_trans {ops : List Oper} (_h : flowOk ops = true) {listed : Array Bool} (hc : ∀ i, listed.getD i false = true → ∀ d ∈ depsOf ops i, listed.getD d false = true) :
    ∀ f i j, anc ops f i j = true → (∀ d ∈ depsOf ops i, listed.getD d false = true) → listed.getD j false = true := by
  intro f
  induction f with
  | zero => intro i j h; simp [anc] at h
  | succ f ih =>
    intro i j h hd
    rw [anc, List.any_eq_true] at h
    obtain ⟨d, hdm, hh⟩ := h
    rw [Bool.or_eq_true] at hh
    rcases hh with e | e
    · rw [← beq_iff_eq.1 e]; exact hd d hdm
    · exact ih d j e (hc d (hd d hdm))

theorem mem_depsOf {ops : List Oper} {i : Nat} {o : Oper} (ho : ops[i]? = some o) {e : Edge} (he : e ∈ o.after) (hb : Region.binds .any e = true) : e.on ∈ depsOf ops i := by
  unfold depsOf
  rw [ho]
  exact List.mem_filterMap.2 ⟨e, by simpa using he, by rw [if_pos hb]⟩

/-- What an operation of the region is handed when its turn comes. -/
structure Turn (E : World) (ops : List Oper) (F : List (List Hp)) (C : Nat → List Hp) (Tp : Nat → Value → List Hp → Prop) (N : Nat) (r : Nat → Value) (i : Nat) (r' : Nat → Value) (w : World) (G : List (List Hp)) (hs : Nat → List Hp) : Prop where
  has : Has E w (C i :: G)
  fr : ∀ s ∈ F, s ⊆ G.flatten
  done : ∀ j o, ops[j]? = some o → anc ops ops.length i j = true → Tp j (slot r' o) (hs j) ∧ hs j ⊆ G.flatten
  todo : ∀ j, anc ops ops.length j i = true → C j ⊆ G.flatten
  old : ∀ t, (∀ j o, ops[j]? = some o → o.dst = some t → j = i ∨ anc ops ops.length j i = true) → r' t = r t
  each : ∀ j o, ops[j]? = some o → j ≠ i → C j ⊆ G.flatten ∨ (∃ v, Tp j v (hs j)) ∧ hs j ⊆ G.flatten

theorem c_flow {P : Program} {Q : Exit → Act → World → Prop} {E w : World} {N : Nat} {r : Nat → Value} {id : Nat} {ops : List Oper} (F : List (List Hp)) (C : Nat → List Hp) (Tp : Nat → Value → List Hp → Prop)
    (hm : P.follows .mixedOrders = true) (hok : flowOk ops = true) (H : Has E w (F ++ (List.range ops.length).map C))
    (step : ∀ i o, ops[i]? = some o → ∀ r' w' G hs, Turn E ops F C Tp N r i r' w' G hs → OK P o (ev N r') w' fun v w'' => ∃ h', Tp i (match o.dst with | some _ => v | none => undef) h' ∧ Has E w'' (h' :: G))
    (fin : ∀ (vs : Nat → Value) (hs : Nat → List Hp) w', (∀ i o, ops[i]? = some o → Tp i (vs i) (hs i)) → Has E w' (F ++ (List.range ops.length).map hs) → Q .normal (Go.Q.fr N (puts vs ops 0 r)) w') :
    (Code.region id ops.toArray true).wp P Q (Go.Q.fr N r) w := by
  refine wp_region_any hm ?_
  -- the state while some are done
  let Inv : Array Bool → Act → World → Prop := fun listed a w => listed.size = ops.length ∧ (∀ i, listed.getD i false = true → ∀ d ∈ depsOf ops i, listed.getD d false = true) ∧
    ∃ r' hs, a = Go.Q.fr N r' ∧ Has E w (F ++ (List.range ops.length).map hs) ∧ (∀ i o, ops[i]? = some o → if listed.getD i false = true then o.dst.isSome = true ∧ Tp i (slot r' o) (hs i) ∨ o.dst = none ∧ Tp i undef (hs i) else hs i = C i) ∧
    (∀ t, (∀ i o, ops[i]? = some o → o.dst = some t → listed.getD i false = false) → r' t = r t)
  have key : ∀ fuel listed a w, Inv listed a w → (List.range ops.length).countP (fun i => !listed.getD i false) ≤ fuel → wpAny P .any ops.toArray Q fuel listed a w := by
    have ready0 : ∀ listed : Array Bool, listed.size = ops.length → Region.ready .any ops.toArray listed = [] → ∀ i, i < ops.length → listed.getD i false = true := by
      intro listed hsz hr i
      induction i using Nat.strongRecOn with
      | _ i ih =>
        intro hi
        cases hl : listed.getD i false with
        | true => rfl
        | false =>
          exfalso
          obtain ⟨o, ho⟩ : ∃ o, ops[i]? = some o := ⟨_, List.getElem?_eq_getElem hi⟩
          have : i ∈ Region.ready .any ops.toArray listed := by
            refine mem_ready.2 ⟨?_, o, by simpa using ho, fun e he hb => ?_⟩
            · have : i < listed.size := by omega
              simp [this] at hl ⊢; exact hl
            · have hd := mem_depsOf ho he hb
              have hlt := (flowOk_spec hok ho).2.1 _ hd
              exact ih _ hlt (by omega)
          rw [hr] at this; cases this
    have fin' : ∀ listed a w, Inv listed a w → Region.ready .any ops.toArray listed = [] → Q .normal a w := by
      rintro listed a w ⟨hsz, _, r', hs, rfl, hH, hT, hold⟩ hr
      have hall := ready0 listed hsz hr
      let vs : Nat → Value := fun i => match ops[i]? with | some o => slot r' o | none => undef
      have e : Go.Q.fr N r' = Go.Q.fr N (puts vs ops 0 r) := by
        refine fr_congr fun t _ => ?_
        by_cases hex : ∃ (i : Nat) (o : Oper), ops[i]? = some o ∧ o.dst = some t
        · obtain ⟨i, o, ho, hd⟩ := hex
          rw [puts_new vs ops 0 i r o t ho hd (fun j o' hj hne => (flowOk_spec hok ho).2.2 j o' t hj hne hd)]
          simp [vs, ho, slot, hd]
        · rw [puts_old vs ops 0 r t (fun o ho hd => by obtain ⟨j, hj⟩ := List.getElem?_of_mem ho; exact hex ⟨j, o, hj, hd⟩)]
          exact hold t (fun i o ho hd => absurd ⟨i, o, ho, hd⟩ hex)
      rw [e]
      refine fin vs hs w (fun i o ho => ?_) hH
      have := hT i o ho
      rw [if_pos (hall i (List.getElem?_eq_some_iff.1 ho).1)] at this
      simp only [vs, ho]
      rcases this with ⟨_, h⟩ | ⟨hn, h⟩
      · exact h
      · unfold slot; rw [hn]; exact h
    intro fuel
    induction fuel with
    | zero =>
      intro listed a w hI hc
      have hr : Region.ready .any ops.toArray listed = [] := by
        rw [List.eq_nil_iff_forall_not_mem]
        intro i hi
        obtain ⟨h0, o, ho, _⟩ := mem_ready.1 hi
        have hlt : i < ops.length := by simpa using (Array.getElem?_eq_some_iff.1 ho).1
        have : listed.getD i false = false := by
          have hs : i < listed.size := by rw [hI.1]; exact hlt
          simp [hs] at h0 ⊢; exact h0
        have hp : 0 < (List.range ops.length).countP (fun i => !listed.getD i false) := List.countP_pos_iff.2 ⟨i, List.mem_range.2 hlt, by rw [this]; rfl⟩
        omega
      exact ⟨hr, fin' listed a w hI hr⟩
    | succ fuel ih =>
      intro listed a w hI hc
      refine ⟨fin' listed a w hI, fun i hi => ?_⟩
      obtain ⟨hsz, hcl, r', hs, rfl, hH, hT, hold⟩ := hI
      obtain ⟨h0, o, ho', hdone⟩ := mem_ready.1 hi
      have ho : ops[i]? = some o := by simpa using ho'
      have hlt : i < ops.length := (List.getElem?_eq_some_iff.1 ho).1
      have hli : listed.getD i false = false := by
        have hs : i < listed.size := by omega
        simp [hs] at h0 ⊢; exact h0
      obtain ⟨hg, hdlt, hdist⟩ := flowOk_spec hok ho
      have hdeps : ∀ d ∈ depsOf ops i, listed.getD d false = true := by
        intro d hd
        unfold depsOf at hd
        rw [ho] at hd
        obtain ⟨e, he, heq⟩ := List.mem_filterMap.1 hd
        split at heq
        · cases heq; exact hdone e (by simpa using he) (by assumption)
        · cases heq
      -- the heaplets: the one at i in front
      let G : List (List Hp) := F ++ ((List.range i).map hs ++ (List.range' (i + 1) (ops.length - (i + 1))).map hs)
      have hsplit : List.range ops.length = List.range i ++ i :: List.range' (i + 1) (ops.length - (i + 1)) := by
        rw [List.range_eq_range', List.range_eq_range', show i :: List.range' (i + 1) (ops.length - (i + 1)) = List.range' i (ops.length - i) from by
          rw [show ops.length - i = (ops.length - (i + 1)) + 1 by omega, List.range'_succ]]
        have := List.range'_append_1 (s := 0) (m := i) (n := ops.length - i)
        rw [Nat.zero_add] at this
        rw [this]; congr 1; omega
      have mapsplit : ∀ f : Nat → List Hp, (List.range ops.length).map f = (List.range i).map f ++ f i :: (List.range' (i + 1) (ops.length - (i + 1))).map f := by
        intro f; rw [hsplit]; simp
      have hperm : ∀ f : Nat → List Hp, (F ++ (List.range ops.length).map f).Perm (f i :: (F ++ ((List.range i).map f ++ (List.range' (i + 1) (ops.length - (i + 1))).map f))) := by
        intro f
        rw [mapsplit f, ← List.append_assoc, ← List.append_assoc]
        exact List.perm_middle
      have hhi : hs i = C i := by have := hT i o ho; rw [if_neg (by rw [hli]; simp)] at this; exact this
      have inG : ∀ j, j < ops.length → j ≠ i → hs j ∈ G := by
        intro j hj hne
        refine List.mem_append_right _ ?_
        rcases Nat.lt_or_gt_of_ne hne with h | h
        · exact List.mem_append_left _ (List.mem_map.2 ⟨j, List.mem_range.2 h, rfl⟩)
        · exact List.mem_append_right _ (List.mem_map.2 ⟨j, by rw [List.mem_range'_1]; omega, rfl⟩)
      have subG : ∀ s ∈ G, s ⊆ G.flatten := fun s hs' x hx => List.mem_flatten.2 ⟨s, hs', hx⟩
      have ancNe : ∀ j, listed.getD j false = true → j ≠ i := fun j hj e => by rw [e, hli] at hj; cases hj
      have turn : Turn E ops F C Tp N r i r' w G hs := by
        refine ⟨?_, fun s hs' => subG s (List.mem_append_left _ hs'), fun j oj hoj hanc => ?_, fun j hanc => ?_, fun t ht => ?_, fun j oj hoj hne => ?_⟩
        · rw [← hhi]; exact hH.perm (hperm hs).symm
        · have hl := anc_trans hok hcl _ i j hanc hdeps
          refine ⟨?_, subG _ (inG j (List.getElem?_eq_some_iff.1 hoj).1 (ancNe j hl))⟩
          have := hT j oj hoj
          rw [if_pos hl] at this
          rcases this with ⟨_, h⟩ | ⟨hn, h⟩
          · exact h
          · unfold slot; rw [hn]; exact h
        · cases hj : ops[j]? with
          | none =>
            exfalso
            unfold anc at hanc
            split at hanc
            · cases hanc
            · simp [depsOf, hj] at hanc
          | some oj =>
            have hnl : listed.getD j false = false := by
              cases hl : listed.getD j false with
              | false => rfl
              | true =>
                have := anc_trans hok hcl _ j i hanc (hcl j hl)
                rw [hli] at this; cases this
            have hjl := (List.getElem?_eq_some_iff.1 hj).1
            have hne : j ≠ i := by
              rintro rfl
              have := anc_trans hok hcl _ j j hanc hdeps
              rw [hli] at this; cases this
            have := hT j oj hj
            rw [if_neg (by rw [hnl]; simp)] at this
            rw [← this]; exact subG _ (inG j hjl hne)
        · refine hold t (fun j oj hoj hd => ?_)
          rcases ht j oj hoj hd with rfl | hanc
          · exact hli
          · cases hl : listed.getD j false with
            | false => rfl
            | true =>
              have := anc_trans hok hcl _ j i hanc (hcl j hl)
              rw [hli] at this; cases this
        · have hG := subG _ (inG j (List.getElem?_eq_some_iff.1 hoj).1 hne)
          have := hT j oj hoj
          cases hl : listed.getD j false with
          | true =>
            rw [if_pos hl] at this
            rcases this with ⟨_, h⟩ | ⟨_, h⟩
            · exact .inr ⟨⟨_, h⟩, hG⟩
            · exact .inr ⟨⟨_, h⟩, hG⟩
          | false =>
            rw [if_neg (by rw [hl]; simp)] at this
            rw [← this]; exact .inl hG
      have hstep := step i o ho r' w G hs turn
      unfold wpOp
      simp only [show ops.toArray[i]? = some o from ho']
      rw [if_pos (by simp [Region.wanted, hg])]
      refine .inl (OK.wp ?_)
      rw [fr_eval]
      refine hstep.mono fun v w'' ⟨h', hTi, hH'⟩ => ?_
      refine ih _ _ _ ⟨by simpa using hsz, ?_, ?_⟩ ?_
      · intro j hj d hd
        by_cases hji : i = j
        · subst hji; exact getD_set_true (hdeps d hd)
        · rw [getD_set_ne false hji] at hj
          exact getD_set_true (hcl j hj d hd)
      · let hs' : Nat → List Hp := fun j => if j = i then h' else hs j
        have hsG : F ++ ((List.range i).map hs' ++ (List.range' (i + 1) (ops.length - (i + 1))).map hs') = G := by
          have e1 : (List.range i).map hs' = (List.range i).map hs := List.map_congr_left fun j hj => by
            have := List.mem_range.1 hj; simp only [hs']; rw [if_neg (by omega)]
          have e2 : (List.range' (i + 1) (ops.length - (i + 1))).map hs' = (List.range' (i + 1) (ops.length - (i + 1))).map hs := List.map_congr_left fun j hj => by
            have := List.mem_range'_1.1 hj; simp only [hs']; rw [if_neg (by omega)]
          rw [e1, e2]
        have hH2 : Has E w'' (F ++ (List.range ops.length).map hs') := by
          refine hH'.perm ((hperm hs').trans ?_)
          rw [hsG]
          simp [hs']
        have hset : ∀ j, j ≠ i → (listed.setIfInBounds i true).getD j false = listed.getD j false := fun j hj => getD_set_ne false (Ne.symm hj)
        have hseti : (listed.setIfInBounds i true).getD i false = true := by
          have : i < listed.size := by omega
          simp [this]
        cases hd : o.dst with
        | none =>
          refine ⟨r', hs', by rw [fr_put_none], hH2, fun j oj hoj => ?_, fun t ht => hold t fun j oj hoj hdj => ?_⟩
          · by_cases hji : j = i
            · subst hji
              rw [ho] at hoj; cases hoj
              rw [if_pos hseti]
              rw [hd] at hTi
              exact .inr ⟨hd, by simpa [hs'] using hTi⟩
            · rw [hset j hji]
              have := hT j oj hoj
              simpa [hs', hji] using this
          · by_cases hji : j = i
            · subst hji; exact hli
            · have := ht j oj hoj hdj; rwa [hset j hji] at this
        | some d =>
          refine ⟨upd r' d v, hs', by rw [fr_put], hH2, fun j oj hoj => ?_, fun t ht => ?_⟩
          · by_cases hji : j = i
            · subst hji
              rw [ho] at hoj; cases hoj
              rw [if_pos hseti]
              refine .inl ⟨by rw [hd]; rfl, ?_⟩
              rw [hd] at hTi
              simp only [slot, hd, upd_same, hs', if_true]; exact hTi
            · rw [hset j hji]
              have := hT j oj hoj
              have hne : oj.dst ≠ some d := hdist j oj d hoj hji hd
              have hsl : slot (upd r' d v) oj = slot r' oj := by
                unfold slot
                cases hdj : oj.dst with
                | none => rfl
                | some t => exact upd_ne _ _ (fun e => hne (by rw [hdj, e]))
              simpa [hs', hji, hsl] using this
          · have hne : t ≠ d := by
              rintro rfl
              have := ht i o ho hd
              rw [hseti] at this; cases this
            rw [upd_ne _ _ hne]
            refine hold t fun j oj hoj hdj => ?_
            by_cases hji : j = i
            · subst hji; exact hli
            · have := ht j oj hoj hdj; rwa [hset j hji] at this
      · have : (List.range ops.length).countP (fun j => !(listed.setIfInBounds i true).getD j false) < (List.range ops.length).countP (fun j => !listed.getD j false) := by
          have hset : ∀ j, j ≠ i → (listed.setIfInBounds i true).getD j false = listed.getD j false := fun j hj => getD_set_ne false (Ne.symm hj)
          have hseti : (listed.setIfInBounds i true).getD i false = true := by
            have : i < listed.size := by omega
            simp [this]
          rw [hsplit, List.countP_append, List.countP_cons, List.countP_append, List.countP_cons, hseti, hli]
          have e1 : (List.range i).countP (fun j => !(listed.setIfInBounds i true).getD j false) = (List.range i).countP (fun j => !listed.getD j false) :=
            List.countP_congr fun j hj => by have := List.mem_range.1 hj; rw [hset j (by omega)]
          have e2 : (List.range' (i + 1) (ops.length - (i + 1))).countP (fun j => !(listed.setIfInBounds i true).getD j false) = (List.range' (i + 1) (ops.length - (i + 1))).countP (fun j => !listed.getD j false) :=
            List.countP_congr fun j hj => by have := List.mem_range'_1.1 hj; rw [hset j (by omega)]
          rw [e1, e2]; simp
        omega
  have h0 : Inv (Array.replicate ops.toArray.size false) (Go.Q.fr N r) { w with drawn := w.drawn + 1 } := by
    have hf : ∀ i, (Array.replicate ops.toArray.size false).getD i false = false := by
      intro i; by_cases h : i < ops.length <;> simp [h]
    refine ⟨by simp, fun i hi => ?_, r, C, rfl, H.drew _, fun i o _ => ?_, fun _ _ => rfl⟩
    · rw [hf] at hi; cases hi
    · rw [if_neg (by rw [hf]; simp)]
  refine key _ _ _ _ h0 ?_
  refine Nat.le_trans List.countP_le_length (by simp)

/-- May slot t be read at i's turn as it was ahead of the region? -/
def oldB (ops : List Oper) (i t : Nat) : Bool := (List.range ops.length).all fun j => match ops[j]? with
  | some o => o.dst != some t || j == i || anc ops ops.length j i
  | none => true
theorem Turn.was {E : World} {ops : List Oper} {F : List (List Hp)} {C : Nat → List Hp} {Tp : Nat → Value → List Hp → Prop} {N : Nat} {r : Nat → Value} {i : Nat} {r' : Nat → Value} {w : World} {G : List (List Hp)} {hs : Nat → List Hp}
    (H : Turn E ops F C Tp N r i r' w G hs) (t : Nat) (h : oldB ops i t = true) : r' t = r t := by
  refine H.old t fun j o ho hd => ?_
  unfold oldB at h
  rw [List.all_eq_true] at h
  have := h j (List.mem_range.2 (List.getElem?_eq_some_iff.1 ho).1)
  simp only [ho, Bool.or_eq_true, bne_iff_ne, beq_iff_eq] at this
  rcases this with (h | h) | h
  · exact absurd hd h
  · exact .inl h
  · exact .inr h
theorem flow_has {E w : World} {F cs : List (List Hp)} {C : Nat → List Hp} {n : Nat} (H : Has E w (F ++ cs)) (h : ((List.range n).map C).flatten = cs.flatten) : Has E w (F ++ (List.range n).map C) := by
  unfold Has at *; rw [List.flatten_append, h, ← List.flatten_append]; exact H
theorem flow_back {E w : World} {F cs : List (List Hp)} {C : Nat → List Hp} {n : Nat} (H : Has E w (F ++ (List.range n).map C)) (h : ((List.range n).map C).flatten = cs.flatten) : Has E w (F ++ cs) := by
  unfold Has at *; rw [List.flatten_append, ← h, ← List.flatten_append]; exact H
theorem sl_lit {α : Type} {f : α → Value} {l : List α} {b : Nat} {c : Array Value} {T : TypeId} {g : Nat × Nat} {n : Nat} (hc : c.toList = l.map f) (hn : l.length = n) (hm : n ≤ 9223372036854775807) :
    Sl [Hp.one b (.cells c T g)] 1 (.slice (some ⟨b, 0, none⟩) n n) l.length (l.map f) := by
  subst hn
  refine ⟨_, _, rfl, Nat.le_refl _, hm, by simp, fun _ => ⟨b, 0, rfl, CellsAt.one ?_⟩⟩
  rw [hc]; simp only [List.drop_zero]; exact List.take_of_length_le (by simp)
theorem sub_r {L s : List Hp} {G : List (List Hp)} (h : L ⊆ G.flatten) : L ⊆ (s :: G).flatten := fun _ hx => by simp only [List.flatten_cons]; exact List.mem_append_right _ (h hx)
theorem sub_l {s : List Hp} {G : List (List Hp)} : s ⊆ (s :: G).flatten := fun _ hx => by simp only [List.flatten_cons]; exact List.mem_append_left _ hx
section args
variable {ρ : Operand → Value} {a b c d e f : Operand} {u v x y z t : Value}
theorem args0 : #[] ++ (#[] : Array Operand).map ρ ++ #[] = #[] := by simp
theorem args1 (h1 : ρ a = u) : #[] ++ #[a].map ρ ++ #[] = #[u] := by simp [*]
theorem args2 (h1 : ρ a = u) (h2 : ρ b = v) : #[] ++ #[a, b].map ρ ++ #[] = #[u, v] := by simp [*]
theorem args3 (h1 : ρ a = u) (h2 : ρ b = v) (h3 : ρ c = x) : #[] ++ #[a, b, c].map ρ ++ #[] = #[u, v, x] := by simp [*]
theorem args4 (h1 : ρ a = u) (h2 : ρ b = v) (h3 : ρ c = x) (h4 : ρ d = y) : #[] ++ #[a, b, c, d].map ρ ++ #[] = #[u, v, x, y] := by simp [*]
theorem args5 (h1 : ρ a = u) (h2 : ρ b = v) (h3 : ρ c = x) (h4 : ρ d = y) (h5 : ρ e = z) : #[] ++ #[a, b, c, d, e].map ρ ++ #[] = #[u, v, x, y, z] := by simp [*]
theorem args6 (h1 : ρ a = u) (h2 : ρ b = v) (h3 : ρ c = x) (h4 : ρ d = y) (h5 : ρ e = z) (h6 : ρ f = t) : #[] ++ #[a, b, c, d, e, f].map ρ ++ #[] = #[u, v, x, y, z, t] := by simp [*]
theorem parts0 : (#[] : Array (Nat × Operand)).map (fun (i, x) => (i, ρ x)) = #[] := by simp
theorem parts1 {i : Nat} (h1 : ρ a = u) : #[(i, a)].map (fun (i, x) => (i, ρ x)) = #[(i, u)] := by simp [*]
theorem parts2 {i j : Nat} (h1 : ρ a = u) (h2 : ρ b = v) : #[(i, a), (j, b)].map (fun (i, x) => (i, ρ x)) = #[(i, u), (j, v)] := by simp [*]
theorem parts3 {i j k : Nat} (h1 : ρ a = u) (h2 : ρ b = v) (h3 : ρ c = x) : #[(i, a), (j, b), (k, c)].map (fun (i, x) => (i, ρ x)) = #[(i, u), (j, v), (k, x)] := by simp [*]
theorem parts4 {i j k l : Nat} (h1 : ρ a = u) (h2 : ρ b = v) (h3 : ρ c = x) (h4 : ρ d = y) : #[(i, a), (j, b), (k, c), (l, d)].map (fun (i, x) => (i, ρ x)) = #[(i, u), (j, v), (k, x), (l, y)] := by simp [*]
theorem parts5 {i j k l m : Nat} (h1 : ρ a = u) (h2 : ρ b = v) (h3 : ρ c = x) (h4 : ρ d = y) (h5 : ρ e = z) : #[(i, a), (j, b), (k, c), (l, d), (m, e)].map (fun (i, x) => (i, ρ x)) = #[(i, u), (j, v), (k, x), (l, y), (m, z)] := by simp [*]
end args
def by8 (x : Int) : UInt8 := UInt8.ofNat (x % 256).toNat
theorem wrap_by8 (x : Int) : IntKind.wrap .u8 x = ((by8 x).toNat : Int) := by
  unfold by8
  have h0 : 0 ≤ x % 256 := Int.emod_nonneg _ (by omega)
  have h1 : x % 256 < 256 := Int.emod_lt_of_pos _ (by omega)
  rw [UInt8.toNat_ofNat']
  simp only [IntKind.wrap, IntKind.bits, IntKind.signed]
  have : (x % 256).toNat % 2 ^ 8 = (x % 256).toNat := Nat.mod_eq_of_lt (by omega)
  rw [this]
  simp
  omega
theorem Has.first {E w : World} {ss ts : List (List Hp)} (H : Has E w ss) (n : Nat) (h : ss.take n = ts) : Has E w ts := h ▸ H.sub (List.take_sublist _ _)
theorem Has.nil {E w : World} {ss : List (List Hp)} (H : Has E w ss) : Has E w ([] :: ss) := by unfold Has at *; simpa using H
theorem not_dec {p : Prop} [Decidable p] : (!decide p) = decide (¬ p) := by simp
theorem sl_nil {L : List Hp} (sz : Nat) : Sl L sz (.slice none 0 0) 0 [] := ⟨none, 0, rfl, Nat.le_refl _, by omega, by simp, fun h => by omega⟩
def sV (l : List UInt8) : Value := S l
theorem one_iV (l : List Int) : ∀ u ∈ l.map iV, u.oneCell' = true := by intro u hu; obtain ⟨x, _, rfl⟩ := List.mem_map.1 hu; rfl
theorem one_bV (l : List UInt8) : ∀ u ∈ l.map bV, u.oneCell' = true := by intro u hu; obtain ⟨x, _, rfl⟩ := List.mem_map.1 hu; rfl
theorem one_sV (l : List (List UInt8)) : ∀ u ∈ l.map sV, u.oneCell' = true := by intro u hu; obtain ⟨x, _, rfl⟩ := List.mem_map.1 hu; rfl
theorem Own.app {α : Type} {f : α → Value} {e : TypeId} {sz n m : Nat} {v : Value} {a b : List α} {hs : List Hp} (H : Own e sz v (n + m) (a.map f ++ b.map f) hs) (hn : n = a.length := by rfl) (hm : m = b.length := by rfl) :
    Own e sz v (a ++ b).length ((a ++ b).map f) hs := by
  subst hn hm
  rw [List.length_append, List.map_append]; exact H
section ops
variable {P : Program} {ρ : Operand → Value} {E w : World} {ss : List (List Hp)} {K : Value → World → Prop} {dst : Option Tmp} {T : TypeId} {pos : String} {after : Array Edge} {g : Option (Nat × Bool)}
theorem o_pick_t {c x y : Operand} {u : Value} (hc : ρ c = .bool true) (hx : ρ x = u) (h : K u w) : OK P ⟨dst, .pick c x y, T, pos, after, g⟩ ρ w K :=
  o_pick hc rfl rfl (by rw [hx]; exact h)
theorem o_pick_f {c x y : Operand} {u : Value} (hc : ρ c = .bool false) (hy : ρ y = u) (h : K u w) : OK P ⟨dst, .pick c x y, T, pos, after, g⟩ ρ w K :=
  o_pick hc rfl rfl (by rw [hy]; exact h)
/-- string(b) -/
theorem o_bstr {s e t : TypeId} {x : Operand} {v : Value} {L : List Hp} {n : Nat} {l : List UInt8} (hs : P.underlying s = some (.slice e)) (he : P.underlying e = some (.int .u8)) (ht : P.underlying t = some .string)
    (hx : ρ x = v) (hr : Sl L 1 v n (l.map bV)) (H : Has E w ss) (hL : L ⊆ ss.flatten) (hK : K (S l) w) : OK P ⟨dst, .convert s t x, T, pos, after, g⟩ ρ w K := by
  refine OK.val (run_v ?_) hK
  obtain ⟨p, cap, rfl, _, _, hl, hp⟩ := hr
  rw [hx, run_convert_bytes_string w s t e p n cap hs he ht]
  have fold : ∀ (l : List UInt8) (b : ByteArray), (l.map fun c => ((c.toNat : Nat) : Int)).foldl (fun r n => r.push (UInt8.ofNat n.toNat)) b = ⟨b.data ++ l.toArray⟩ := by
    intro l
    induction l with
    | nil => intro b; simp
    | cons c l ih => intro b; simp only [List.map_cons, List.foldl_cons]; rw [ih]; apply ByteArray.ext; simp [ByteArray.push]
  have hn : l.length = n := by simpa using hl
  by_cases h0 : n = 0
  · subst h0
    obtain rfl : l = [] := by simpa using hn
    cases p with
    | none => simp [Conv.bytesToString, S]; rfl
    | some a =>
      have := run_bytesToString (P := P) w a 0 cap [] (by simp [loadCells, loadCellsFrom])
      rw [this]; simp [S]; rfl
  · obtain ⟨b, off, rfl, hc⟩ := hp (by omega)
    have := run_bytesToString (P := P) w ⟨b, off, none⟩ n cap (l.map fun c => ((c.toNat : Nat) : Int)) (by
      have h := run_loadCells_list (P := P) (w := w) ⟨b, off, none⟩ (l.map bV) (fun j v hv => by rw [add_lit]; exact H.cell hL hc hv)
      rw [List.length_map, hn] at h
      rw [h, List.map_map]; rfl)
    rw [this, fold]
    simp [S]
theorem o_sstr {s t : TypeId} {x : Operand} {l : List UInt8} (hs : P.underlying s = some .string) (ht : P.underlying t = some .string) (hx : ρ x = S l) (hK : K (S l) w) : OK P ⟨dst, .convert s t x, T, pos, after, g⟩ ρ w K := by
  refine OK.val (run_v ?_) hK
  rw [hx]; unfold S
  simp [convert, run_underlying hs, run_underlying ht]
theorem o_build {t : TypeId} {parts : Array (Nat × Operand)} {ps : Array (Nat × Value)} {v : Value} (hp : parts.map (fun (i, x) => (i, ρ x)) = ps) (hr : ∀ w, (Instr.build t ps).run P w = .ok v w) (hK : K v w) :
    OK P ⟨dst, .build t parts, T, pos, after, g⟩ ρ w K := OK.val (run_v (by rw [show (parts.map fun (i, x) => (i, ρ x)) = ps from hp]; exact hr w)) hK
end ops
theorem s_offu {P : Program} {ops : List Oper} {Q : Exit → Act → World → Prop} {w : World} {rest : List Oper} {N : Nat} {r : Nat → Value} {d : Nat} {op : Op} {T : TypeId} {pos : String} {after : Array Edge} {g : Nat} {b : Bool} (t : Nat)
    (hgt : dstOf ops g = some t) (hv : ev N r (.tmp t) = undef) (h : wpList P ops.toArray Q rest (fr N (upd r d undef)) w) :
    wpList P ops.toArray Q (⟨some d, op, T, pos, after, some (g, b)⟩ :: rest) (fr N r) w := by
  obtain ⟨og, hg, ht⟩ := dstOf_spec ops g hgt
  have hy : yielded ops.toArray (fr N r).tmps g = none := by
    simp only [yielded, hg, ht, Option.bind_some, fr_at]
    by_cases h : t < N
    · have hb : Nat.blt t N = true := by simpa using h
      simp only [ev, hb] at hv
      have hv' : r t = undef := hv
      rw [if_pos h, hv']; rfl
    · rw [if_neg h]
  have hw : Region.wanted ⟨some d, op, T, pos, after, some (g, b)⟩ (yielded ops.toArray (fr N r).tmps) = false := by
    simp only [Region.wanted, hy]; cases b <;> rfl
  unfold wpList
  rw [if_neg (by rw [hw]; simp), fr_put]
  exact h
theorem shr_lit (x : Int) {k : Int} {m : Nat} {d : Int} (hd : 0 ≤ d) (h : (2 : Int) ^ (min k.toNat m) = d) : x.fdiv (2 ^ (min k.toNat m)) = x / d := by
  rw [h]; exact Int.fdiv_eq_ediv_of_nonneg _ hd
theorem shl_lit {x : Int} {k : Int} {m : Nat} {d : Int} (h0 : -9223372036854775808 ≤ x * d) (h1 : x * d ≤ 9223372036854775807) (h : (2 : Int) ^ (min k.toNat m) = d) :
    IntKind.wrap .i64 (x * 2 ^ (min k.toNat m)) = x * d := by rw [h]; exact w64 h0 h1
theorem first_byte {s : List UInt8} {b : UInt8} (h : s[0]? = some b) (hb : b.toNat ≤ 127) : ∀ c, s[0]? = some c → c.toNat ≤ 127 := by
  intro c hc; rw [h] at hc; cases hc; exact hb
end Go.Q
