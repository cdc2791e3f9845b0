/-
  Parts of a walk: what functions of the program compute, each told by a theorem (QF2, QF3, QF4, QF5, QF6, QF7, QSlh, QRet, QDk1, QStr, QK, QKV, QWay, QDev, QLock, QPage).
-/
import Derived.Test.YtcffibbdbalmjaaDoorB1
import Derived.Sort.Walk0
import Derived.MapKept
set_option linter.unusedVariables false
set_option linter.unusedSimpArgs false
set_option linter.unnecessarySimpa false
namespace Go.Q
/-- what the operations have yielded -/
def vsOf (ops : List Oper) (r : Nat → Value) : Nat → Value := fun j => match ops[j]? with | some o => slot r o | none => undef
/-- what those ahead of i have yielded -/
def msk (ops : List Oper) (i : Nat) (vs : Nat → Value) : Nat → Value := fun j => if anc ops ops.length i j = true then vs j else undef
theorem msk_upd {ops : List Oper} {i j d : Nat} {o : Oper} {r : Nat → Value} {v : Value} (hok : flowOk ops = true) (ho : ops[i]? = some o) (hd : o.dst = some d) (h : ∀ k, anc ops ops.length j k = true → k ≠ i) :
    msk ops j (vsOf ops (upd r d v)) = msk ops j (vsOf ops r) := by
  funext k
  unfold msk
  split
  · rename_i hk
    unfold vsOf
    cases hok' : ops[k]? with
    | none => rfl
    | some ok =>
      have hne : ok.dst ≠ some d := (flowOk_spec hok ho).2.2 k ok d hok' (h k hk) hd
      show slot (upd r d v) ok = slot r ok
      unfold slot
      cases hdk : ok.dst with
      | none => rfl
      | some t => exact upd_ne _ _ (fun e => hne (hdk.trans (congrArg some e)))
  · rfl
/-- What an operation of the region is handed when its turn comes. -/
structure Turn2 (E : World) (ops : List Oper) (F : List (List Hp)) (C : Nat → List Hp) (Tp : Nat → Value → List Hp → (Nat → Value) → Prop) (N : Nat) (r : Nat → Value) (i : Nat) (r' : Nat → Value) (w : World) (G : List (List Hp)) (hs : Nat → List Hp) : Prop where
  has : Has E w (C i :: G)
  fr : ∀ s ∈ F, s ⊆ G.flatten
  done : ∀ j o, ops[j]? = some o → anc ops ops.length i j = true → Tp j (slot r' o) (hs j) (msk ops j (vsOf ops r')) ∧ hs j ⊆ G.flatten
  todo : ∀ j, anc ops ops.length j i = true → C j ⊆ G.flatten
  old : ∀ t, (∀ j o, ops[j]? = some o → o.dst = some t → j = i ∨ anc ops ops.length j i = true) → r' t = r t
  each : ∀ j o, ops[j]? = some o → j ≠ i → C j ⊆ G.flatten ∨ (∃ v m, Tp j v (hs j) m) ∧ hs j ⊆ G.flatten

theorem c_flow2 {P : Program} {Q : Exit → Act → World → Prop} {E w : World} {N : Nat} {r : Nat → Value} {id : Nat} {ops : List Oper} (F : List (List Hp)) (C : Nat → List Hp) (Tp : Nat → Value → List Hp → (Nat → Value) → Prop)
    (hm : P.follows .mixedOrders = true) (hok : flowOk ops = true) (H : Has E w (F ++ (List.range ops.length).map C))
    (step : ∀ i o, ops[i]? = some o → ∀ r' w' G hs, Turn2 E ops F C Tp N r i r' w' G hs → OK P o (ev N r') w' fun v w'' => ∃ h', Tp i (match o.dst with | some _ => v | none => undef) h' (msk ops i (vsOf ops r')) ∧ Has E w'' (h' :: G))
    (fin : ∀ (vs : Nat → Value) (hs : Nat → List Hp) w', (∀ i o, ops[i]? = some o → Tp i (vs i) (hs i) (msk ops i vs)) → Has E w' (F ++ (List.range ops.length).map hs) → Q .normal (Go.Q.fr N (puts vs ops 0 r)) w') :
    (Code.region id ops.toArray true).wp P Q (Go.Q.fr N r) w := by
  refine wp_region_any hm ?_
  -- the state while some are done
  let Inv : Array Bool → Act → World → Prop := fun listed a w => listed.size = ops.length ∧ (∀ i, listed.getD i false = true → ∀ d ∈ depsOf ops i, listed.getD d false = true) ∧
    ∃ r' hs, a = Go.Q.fr N r' ∧ Has E w (F ++ (List.range ops.length).map hs) ∧ (∀ i o, ops[i]? = some o → if listed.getD i false = true then o.dst.isSome = true ∧ Tp i (slot r' o) (hs i) (msk ops i (vsOf ops r')) ∨ o.dst = none ∧ Tp i undef (hs i) (msk ops i (vsOf ops r')) else hs i = C i) ∧
    (∀ t, (∀ i o, ops[i]? = some o → o.dst = some t → listed.getD i false = false) → r' t = r t)
  have key : ∀ fuel listed a w, Inv listed a w → (List.range ops.length).countP (fun i => !listed.getD i false) ≤ fuel → wpAny P .any ops.toArray Q fuel listed a w := by
    have ready0 : ∀ listed : Array Bool, listed.size = ops.length → Region.ready .any ops.toArray listed = [] → ∀ i, i < ops.length → listed.getD i false = true := by
      intro listed hsz hr i
      induction i using Nat.strongRecOn with
      | _ i ih =>
        intro hi
        cases hl : listed.getD i false with
        | true => rfl
        | false =>
          exfalso
          obtain ⟨o, ho⟩ : ∃ o, ops[i]? = some o := ⟨_, List.getElem?_eq_getElem hi⟩
          have : i ∈ Region.ready .any ops.toArray listed := by
            refine mem_ready.2 ⟨?_, o, by simpa using ho, fun e he hb => ?_⟩
            · have : i < listed.size := by omega
              simp [this] at hl ⊢; exact hl
            · have hd := mem_depsOf ho he hb
              have hlt := (flowOk_spec hok ho).2.1 _ hd
              exact ih _ hlt (by omega)
          rw [hr] at this; cases this
    have fin' : ∀ listed a w, Inv listed a w → Region.ready .any ops.toArray listed = [] → Q .normal a w := by
      rintro listed a w ⟨hsz, _, r', hs, rfl, hH, hT, hold⟩ hr
      have hall := ready0 listed hsz hr
      let vs : Nat → Value := vsOf ops r'
      have e : Go.Q.fr N r' = Go.Q.fr N (puts vs ops 0 r) := by
        refine fr_congr fun t _ => ?_
        by_cases hex : ∃ (i : Nat) (o : Oper), ops[i]? = some o ∧ o.dst = some t
        · obtain ⟨i, o, ho, hd⟩ := hex
          rw [puts_new vs ops 0 i r o t ho hd (fun j o' hj hne => (flowOk_spec hok ho).2.2 j o' t hj hne hd)]
          simp [vs, vsOf, ho, slot, hd]
        · rw [puts_old vs ops 0 r t (fun o ho hd => by obtain ⟨j, hj⟩ := List.getElem?_of_mem ho; exact hex ⟨j, o, hj, hd⟩)]
          exact hold t (fun i o ho hd => absurd ⟨i, o, ho, hd⟩ hex)
      rw [e]
      refine fin vs hs w (fun i o ho => ?_) hH
      have := hT i o ho
      rw [if_pos (hall i (List.getElem?_eq_some_iff.1 ho).1)] at this
      have hvs : vs i = slot r' o := by simp only [vs, vsOf, ho]
      rw [hvs]
      rcases this with ⟨_, h⟩ | ⟨hn, h⟩
      · exact h
      · unfold slot; rw [hn]; exact h
    intro fuel
    induction fuel with
    | zero =>
      intro listed a w hI hc
      have hr : Region.ready .any ops.toArray listed = [] := by
        rw [List.eq_nil_iff_forall_not_mem]
        intro i hi
        obtain ⟨h0, o, ho, _⟩ := mem_ready.1 hi
        have hlt : i < ops.length := by simpa using (Array.getElem?_eq_some_iff.1 ho).1
        have : listed.getD i false = false := by
          have hs : i < listed.size := by rw [hI.1]; exact hlt
          simp [hs] at h0 ⊢; exact h0
        have hp : 0 < (List.range ops.length).countP (fun i => !listed.getD i false) := List.countP_pos_iff.2 ⟨i, List.mem_range.2 hlt, by rw [this]; rfl⟩
        omega
      exact ⟨hr, fin' listed a w hI hr⟩
    | succ fuel ih =>
      intro listed a w hI hc
      refine ⟨fin' listed a w hI, fun i hi => ?_⟩
      obtain ⟨hsz, hcl, r', hs, rfl, hH, hT, hold⟩ := hI
      obtain ⟨h0, o, ho', hdone⟩ := mem_ready.1 hi
      have ho : ops[i]? = some o := by simpa using ho'
      have hlt : i < ops.length := (List.getElem?_eq_some_iff.1 ho).1
      have hli : listed.getD i false = false := by
        have hs : i < listed.size := by omega
        simp [hs] at h0 ⊢; exact h0
      obtain ⟨hg, hdlt, hdist⟩ := flowOk_spec hok ho
      have hdeps : ∀ d ∈ depsOf ops i, listed.getD d false = true := by
        intro d hd
        unfold depsOf at hd
        rw [ho] at hd
        obtain ⟨e, he, heq⟩ := List.mem_filterMap.1 hd
        split at heq
        · cases heq; exact hdone e (by simpa using he) (by assumption)
        · cases heq
      -- the heaplets: the one at i in front
      let G : List (List Hp) := F ++ ((List.range i).map hs ++ (List.range' (i + 1) (ops.length - (i + 1))).map hs)
      have hsplit : List.range ops.length = List.range i ++ i :: List.range' (i + 1) (ops.length - (i + 1)) := by
        rw [List.range_eq_range', List.range_eq_range', show i :: List.range' (i + 1) (ops.length - (i + 1)) = List.range' i (ops.length - i) from by
          rw [show ops.length - i = (ops.length - (i + 1)) + 1 by omega, List.range'_succ]]
        have := List.range'_append_1 (s := 0) (m := i) (n := ops.length - i)
        rw [Nat.zero_add] at this
        rw [this]; congr 1; omega
      have mapsplit : ∀ f : Nat → List Hp, (List.range ops.length).map f = (List.range i).map f ++ f i :: (List.range' (i + 1) (ops.length - (i + 1))).map f := by
        intro f; rw [hsplit]; simp
      have hperm : ∀ f : Nat → List Hp, (F ++ (List.range ops.length).map f).Perm (f i :: (F ++ ((List.range i).map f ++ (List.range' (i + 1) (ops.length - (i + 1))).map f))) := by
        intro f
        rw [mapsplit f, ← List.append_assoc, ← List.append_assoc]
        exact List.perm_middle
      have hhi : hs i = C i := by have := hT i o ho; rw [if_neg (by rw [hli]; simp)] at this; exact this
      have inG : ∀ j, j < ops.length → j ≠ i → hs j ∈ G := by
        intro j hj hne
        refine List.mem_append_right _ ?_
        rcases Nat.lt_or_gt_of_ne hne with h | h
        · exact List.mem_append_left _ (List.mem_map.2 ⟨j, List.mem_range.2 h, rfl⟩)
        · exact List.mem_append_right _ (List.mem_map.2 ⟨j, by rw [List.mem_range'_1]; omega, rfl⟩)
      have subG : ∀ s ∈ G, s ⊆ G.flatten := fun s hs' x hx => List.mem_flatten.2 ⟨s, hs', hx⟩
      have ancNe : ∀ j, listed.getD j false = true → j ≠ i := fun j hj e => by rw [e, hli] at hj; cases hj
      have turn : Turn2 E ops F C Tp N r i r' w G hs := by
        refine ⟨?_, fun s hs' => subG s (List.mem_append_left _ hs'), fun j oj hoj hanc => ?_, fun j hanc => ?_, fun t ht => ?_, fun j oj hoj hne => ?_⟩
        · rw [← hhi]; exact hH.perm (hperm hs).symm
        · have hl := anc_trans hok hcl _ i j hanc hdeps
          refine ⟨?_, subG _ (inG j (List.getElem?_eq_some_iff.1 hoj).1 (ancNe j hl))⟩
          have := hT j oj hoj
          rw [if_pos hl] at this
          rcases this with ⟨_, h⟩ | ⟨hn, h⟩
          · exact h
          · unfold slot; rw [hn]; exact h
        · cases hj : ops[j]? with
          | none =>
            exfalso
            unfold anc at hanc
            split at hanc
            · cases hanc
            · simp [depsOf, hj] at hanc
          | some oj =>
            have hnl : listed.getD j false = false := by
              cases hl : listed.getD j false with
              | false => rfl
              | true =>
                have := anc_trans hok hcl _ j i hanc (hcl j hl)
                rw [hli] at this; cases this
            have hjl := (List.getElem?_eq_some_iff.1 hj).1
            have hne : j ≠ i := by
              rintro rfl
              have := anc_trans hok hcl _ j j hanc hdeps
              rw [hli] at this; cases this
            have := hT j oj hj
            rw [if_neg (by rw [hnl]; simp)] at this
            rw [← this]; exact subG _ (inG j hjl hne)
        · refine hold t (fun j oj hoj hd => ?_)
          rcases ht j oj hoj hd with rfl | hanc
          · exact hli
          · cases hl : listed.getD j false with
            | false => rfl
            | true =>
              have := anc_trans hok hcl _ j i hanc (hcl j hl)
              rw [hli] at this; cases this
        · have hG := subG _ (inG j (List.getElem?_eq_some_iff.1 hoj).1 hne)
          have := hT j oj hoj
          cases hl : listed.getD j false with
          | true =>
            rw [if_pos hl] at this
            rcases this with ⟨_, h⟩ | ⟨_, h⟩
            · exact .inr ⟨⟨_, _, h⟩, hG⟩
            · exact .inr ⟨⟨_, _, h⟩, hG⟩
          | false =>
            rw [if_neg (by rw [hl]; simp)] at this
            rw [← this]; exact .inl hG
      have hstep := step i o ho r' w G hs turn
      unfold wpOp
      simp only [show ops.toArray[i]? = some o from ho']
      rw [if_pos (by simp [Region.wanted, hg])]
      refine .inl (OK.wp ?_)
      rw [fr_eval]
      refine hstep.mono fun v w'' ⟨h', hTi, hH'⟩ => ?_
      refine ih _ _ _ ⟨by simpa using hsz, ?_, ?_⟩ ?_
      · intro j hj d hd
        by_cases hji : i = j
        · subst hji; exact getD_set_true (hdeps d hd)
        · rw [getD_set_ne false hji] at hj
          exact getD_set_true (hcl j hj d hd)
      · let hs' : Nat → List Hp := fun j => if j = i then h' else hs j
        have hsG : F ++ ((List.range i).map hs' ++ (List.range' (i + 1) (ops.length - (i + 1))).map hs') = G := by
          have e1 : (List.range i).map hs' = (List.range i).map hs := List.map_congr_left fun j hj => by
            have := List.mem_range.1 hj; simp only [hs']; rw [if_neg (by omega)]
          have e2 : (List.range' (i + 1) (ops.length - (i + 1))).map hs' = (List.range' (i + 1) (ops.length - (i + 1))).map hs := List.map_congr_left fun j hj => by
            have := List.mem_range'_1.1 hj; simp only [hs']; rw [if_neg (by omega)]
          rw [e1, e2]
        have hH2 : Has E w'' (F ++ (List.range ops.length).map hs') := by
          refine hH'.perm ((hperm hs').trans ?_)
          rw [hsG]
          simp [hs']
        have hset : ∀ j, j ≠ i → (listed.setIfInBounds i true).getD j false = listed.getD j false := fun j hj => getD_set_ne false (Ne.symm hj)
        have hseti : (listed.setIfInBounds i true).getD i false = true := by
          have : i < listed.size := by omega
          simp [this]
        cases hd : o.dst with
        | none =>
          refine ⟨r', hs', by rw [fr_put_none], hH2, fun j oj hoj => ?_, fun t ht => hold t fun j oj hoj hdj => ?_⟩
          · by_cases hji : j = i
            · subst hji
              rw [ho] at hoj; cases hoj
              rw [if_pos hseti]
              rw [hd] at hTi
              exact .inr ⟨hd, by simpa [hs'] using hTi⟩
            · rw [hset j hji]
              have := hT j oj hoj
              simpa [hs', hji] using this
          · by_cases hji : j = i
            · subst hji; exact hli
            · have := ht j oj hoj hdj; rwa [hset j hji] at this
        | some d =>
          refine ⟨upd r' d v, hs', by rw [fr_put], hH2, fun j oj hoj => ?_, fun t ht => ?_⟩
          · by_cases hji : j = i
            · subst hji
              rw [ho] at hoj; cases hoj
              rw [if_pos hseti]
              refine .inl ⟨by rw [hd]; rfl, ?_⟩
              rw [hd] at hTi
              rw [msk_upd hok ho hd (fun k hk => ancNe k (anc_trans hok hcl _ j k hk hdeps))]
              simp only [slot, hd, upd_same, hs', if_true]; exact hTi
            · rw [hset j hji]
              have := hT j oj hoj
              have hne : oj.dst ≠ some d := hdist j oj d hoj hji hd
              have hsl : slot (upd r' d v) oj = slot r' oj := by
                unfold slot
                cases hdj : oj.dst with
                | none => rfl
                | some t => exact upd_ne _ _ (fun e => hne (by rw [hdj, e]))
              cases hlj : listed.getD j false with
              | true =>
                rw [msk_upd hok ho hd (fun k hk => ancNe k (anc_trans hok hcl _ j k hk (hcl j hlj)))]
                simpa [hs', hji, hsl, hlj] using this
              | false => simpa [hs', hji, hlj] using this
          · have hne : t ≠ d := by
              rintro rfl
              have := ht i o ho hd
              rw [hseti] at this; cases this
            rw [upd_ne _ _ hne]
            refine hold t fun j oj hoj hdj => ?_
            by_cases hji : j = i
            · subst hji; exact hli
            · have := ht j oj hoj hdj; rwa [hset j hji] at this
      · have : (List.range ops.length).countP (fun j => !(listed.setIfInBounds i true).getD j false) < (List.range ops.length).countP (fun j => !listed.getD j false) := by
          have hset : ∀ j, j ≠ i → (listed.setIfInBounds i true).getD j false = listed.getD j false := fun j hj => getD_set_ne false (Ne.symm hj)
          have hseti : (listed.setIfInBounds i true).getD i false = true := by
            have : i < listed.size := by omega
            simp [this]
          rw [hsplit, List.countP_append, List.countP_cons, List.countP_append, List.countP_cons, hseti, hli]
          have e1 : (List.range i).countP (fun j => !(listed.setIfInBounds i true).getD j false) = (List.range i).countP (fun j => !listed.getD j false) :=
            List.countP_congr fun j hj => by have := List.mem_range.1 hj; rw [hset j (by omega)]
          have e2 : (List.range' (i + 1) (ops.length - (i + 1))).countP (fun j => !(listed.setIfInBounds i true).getD j false) = (List.range' (i + 1) (ops.length - (i + 1))).countP (fun j => !listed.getD j false) :=
            List.countP_congr fun j hj => by have := List.mem_range'_1.1 hj; rw [hset j (by omega)]
          rw [e1, e2]; simp
        omega
  have h0 : Inv (Array.replicate ops.toArray.size false) (Go.Q.fr N r) { w with drawn := w.drawn + 1 } := by
    have hf : ∀ i, (Array.replicate ops.toArray.size false).getD i false = false := by
      intro i; by_cases h : i < ops.length <;> simp [h]
    refine ⟨by simp, fun i hi => ?_, r, C, rfl, H.drew _, fun i o _ => ?_, fun _ _ => rfl⟩
    · rw [hf] at hi; cases hi
    · rw [if_neg (by rw [hf]; simp)]
  refine key _ _ _ _ h0 ?_
  refine Nat.le_trans List.countP_le_length (by simp)

theorem Turn2.was {E : World} {ops : List Oper} {F : List (List Hp)} {C : Nat → List Hp} {Tp : Nat → Value → List Hp → (Nat → Value) → Prop} {N : Nat} {r : Nat → Value} {i : Nat} {r' : Nat → Value} {w : World} {G : List (List Hp)} {hs : Nat → List Hp}
    (H : Turn2 E ops F C Tp N r i r' w G hs) (t : Nat) (h : oldB ops i t = true) : r' t = r t := by
  refine H.old t fun j o ho hd => ?_
  unfold oldB at h
  rw [List.all_eq_true] at h
  have := h j (List.mem_range.2 (List.getElem?_eq_some_iff.1 ho).1)
  simp only [ho, Bool.or_eq_true, bne_iff_ne, beq_iff_eq] at this
  rcases this with (h | h) | h
  · exact absurd hd h
  · exact .inl h
  · exact .inr h
end Go.Q
namespace Go.Q
/-- Is a region of that make: each slot written once, all edges lead back? -/
def flowOk3 (ops : List Oper) : Bool :=
  ((List.range ops.length).all fun i => match ops[i]? with
    | some o => (depsOf ops i).all (fun d => decide (d < i)) && (List.range ops.length).all fun j => j == i || match ops[j]? with
      | some o' => o.dst.isNone || o'.dst != o.dst
      | none => true
    | none => true)
theorem flowOk3_spec {ops : List Oper} (h : flowOk3 ops = true) {i : Nat} {o : Oper} (ho : ops[i]? = some o) :
    (∀ d ∈ depsOf ops i, d < i) ∧ ∀ j o' t, ops[j]? = some o' → j ≠ i → o.dst = some t → o'.dst ≠ some t := by
  unfold flowOk3 at h
  rw [List.all_eq_true] at h
  have hi : i < ops.length := (List.getElem?_eq_some_iff.1 ho).1
  have h1 := h i (List.mem_range.2 hi)
  simp only [ho, Bool.and_eq_true, List.all_eq_true, decide_eq_true_eq] at h1
  obtain ⟨hd, hj⟩ := h1
  refine ⟨hd, fun j o' t hj' hne ht => ?_⟩
  have := hj j (List.mem_range.2 (List.getElem?_eq_some_iff.1 hj').1)
  simp only [hj', ht, Option.isNone_some, Bool.false_or, Bool.or_eq_true, beq_iff_eq, bne_iff_ne] at this
  rcases this with h | h
  · exact absurd h hne
  · exact h

theorem anc_trans3 {ops : List Oper} (_h : flowOk3 ops = true) {listed : Array Bool} (hc : ∀ i, listed.getD i false = true → ∀ d ∈ depsOf ops i, listed.getD d false = true) :
    ∀ f i j, anc ops f i j = true → (∀ d ∈ depsOf ops i, listed.getD d false = true) → listed.getD j false = true := by
  intro f
  induction f with
  | zero => intro i j h; simp [anc] at h
  | succ f ih =>
    intro i j h hd
    rw [anc, List.any_eq_true] at h
    obtain ⟨d, hdm, hh⟩ := h
    rw [Bool.or_eq_true] at hh
    rcases hh with e | e
    · rw [← beq_iff_eq.1 e]; exact hd d hdm
    · exact ih d j e (hc d (hd d hdm))

/-- An operation of a region, under its guard. -/
def GOK (P : Program) (ops : List Oper) (o : Oper) (N : Nat) (r : Nat → Value) (w : World) (K : Value → World → Prop) : Prop := match o.guard with
  | none => OK P o (ev N r) w K
  | some (g, b) => ∃ t, dstOf ops g = some t ∧ (ev N r (.tmp t) = .bool b ∧ OK P o (ev N r) w K ∨ ((∃ b', ev N r (.tmp t) = .bool b' ∧ (b' == b) = false) ∨ ev N r (.tmp t) = undef) ∧ K undef w)
theorem GOK.on {P : Program} {ops : List Oper} {o : Oper} {N : Nat} {r : Nat → Value} {w : World} {K : Value → World → Prop} {g t : Nat} {b : Bool} (hg : o.guard = some (g, b)) (ht : dstOf ops g = some t) (hv : ev N r (.tmp t) = .bool b) (h : OK P o (ev N r) w K) : GOK P ops o N r w K := by
  unfold GOK; rw [hg]; exact ⟨t, ht, .inl ⟨hv, h⟩⟩
theorem GOK.off {P : Program} {ops : List Oper} {o : Oper} {N : Nat} {r : Nat → Value} {w : World} {K : Value → World → Prop} {g t : Nat} {b b' : Bool} (hg : o.guard = some (g, b)) (ht : dstOf ops g = some t) (hv : ev N r (.tmp t) = .bool b') (hne : (b' == b) = false) (h : K undef w) : GOK P ops o N r w K := by
  unfold GOK; rw [hg]; exact ⟨t, ht, .inr ⟨.inl ⟨b', hv, hne⟩, h⟩⟩
theorem GOK.offu {P : Program} {ops : List Oper} {o : Oper} {N : Nat} {r : Nat → Value} {w : World} {K : Value → World → Prop} {g t : Nat} {b : Bool} (hg : o.guard = some (g, b)) (ht : dstOf ops g = some t) (hv : ev N r (.tmp t) = undef) (h : K undef w) : GOK P ops o N r w K := by
  unfold GOK; rw [hg]; exact ⟨t, ht, .inr ⟨.inr hv, h⟩⟩
theorem GOK.free {P : Program} {ops : List Oper} {o : Oper} {N : Nat} {r : Nat → Value} {w : World} {K : Value → World → Prop} (hg : o.guard = none) (h : OK P o (ev N r) w K) : GOK P ops o N r w K := by
  unfold GOK; rw [hg]; exact h
theorem GOK.wp {P : Program} {ops : List Oper} {Q : Exit → Act → World → Prop} {o : Oper} {N i : Nat} {r : Nat → Value} {w : World} {K : Value → World → Prop} {K' : Act → World → Prop} (ho : ops.toArray[i]? = some o) (h : GOK P ops o N r w K)
    (hK : ∀ v w'', K v w'' → K' ((Go.Q.fr N r).put o.dst v) w'') : wpOp P ops.toArray Q i K' (Go.Q.fr N r) w := by
  unfold wpOp
  simp only [ho]
  obtain ⟨d, op, T, pos, after, gd⟩ := o
  unfold GOK at h
  cases gd with
  | none =>
    rw [if_pos (by simp [Region.wanted])]
    refine .inl (OK.wp ?_)
    rw [fr_eval]
    exact OK.mono h fun v w'' hk => hK v w'' hk
  | some gb =>
    obtain ⟨g, b⟩ := gb
    obtain ⟨t, ht, h⟩ := h
    obtain ⟨og, hg, ht⟩ := dstOf_spec ops g ht
    rcases h with ⟨hv, h⟩ | ⟨⟨b', hv, hne⟩ | hv, h⟩
    · rw [if_pos (by rw [wanted_fr hg ht hv]; simp)]
      refine .inl (OK.wp ?_)
      rw [fr_eval]
      exact OK.mono h fun v w'' hk => hK v w'' hk
    · rw [if_neg (by rw [wanted_fr hg ht hv, hne]; simp)]
      exact hK _ _ h
    · have hy : yielded ops.toArray (Go.Q.fr N r).tmps g = none := by
        simp only [yielded, hg, ht, Option.bind_some, fr_at]
        by_cases h : t < N
        · have hb : Nat.blt t N = true := by simpa using h
          simp only [ev, hb] at hv
          have hv' : r t = undef := hv
          rw [if_pos h, hv']; rfl
        · rw [if_neg h]
      rw [if_neg (by simp [Region.wanted, hy])]
      exact hK _ _ h
theorem msk_upd3 {ops : List Oper} {i j d : Nat} {o : Oper} {r : Nat → Value} {v : Value} (hok : flowOk3 ops = true) (ho : ops[i]? = some o) (hd : o.dst = some d) (h : ∀ k, anc ops ops.length j k = true → k ≠ i) :
    msk ops j (vsOf ops (upd r d v)) = msk ops j (vsOf ops r) := by
  funext k
  unfold msk
  split
  · rename_i hk
    unfold vsOf
    cases hok' : ops[k]? with
    | none => rfl
    | some ok =>
      have hne : ok.dst ≠ some d := (flowOk3_spec hok ho).2 k ok d hok' (h k hk) hd
      show slot (upd r d v) ok = slot r ok
      unfold slot
      cases hdk : ok.dst with
      | none => rfl
      | some t => exact upd_ne _ _ (fun e => hne (hdk.trans (congrArg some e)))
  · rfl
/-- What an operation of the region is handed when its turn comes. -/
structure Turn3 (E : World) (ops : List Oper) (F : List (List Hp)) (C : Nat → List Hp) (Tp : Nat → Value → List Hp → (Nat → Value) → Prop) (N : Nat) (r : Nat → Value) (i : Nat) (r' : Nat → Value) (w : World) (G : List (List Hp)) (hs : Nat → List Hp) : Prop where
  has : Has E w (C i :: G)
  fr : ∀ s ∈ F, s ⊆ G.flatten
  done : ∀ j o, ops[j]? = some o → anc ops ops.length i j = true → Tp j (slot r' o) (hs j) (msk ops j (vsOf ops r')) ∧ hs j ⊆ G.flatten
  todo : ∀ j, anc ops ops.length j i = true → C j ⊆ G.flatten
  old : ∀ t, (∀ j o, ops[j]? = some o → o.dst = some t → j = i ∨ anc ops ops.length j i = true) → r' t = r t
  each : ∀ j o, ops[j]? = some o → j ≠ i → C j ⊆ G.flatten ∨ (∃ v m, Tp j v (hs j) m) ∧ hs j ⊆ G.flatten

theorem c_flow3 {P : Program} {Q : Exit → Act → World → Prop} {E w : World} {N : Nat} {r : Nat → Value} {id : Nat} {ops : List Oper} (F : List (List Hp)) (C : Nat → List Hp) (Tp : Nat → Value → List Hp → (Nat → Value) → Prop)
    (hm : P.follows .mixedOrders = true) (hok : flowOk3 ops = true) (H : Has E w (F ++ (List.range ops.length).map C))
    (step : ∀ i o, ops[i]? = some o → ∀ r' w' G hs, Turn3 E ops F C Tp N r i r' w' G hs → GOK P ops o N r' w' fun v w'' => ∃ h', Tp i (match o.dst with | some _ => v | none => undef) h' (msk ops i (vsOf ops r')) ∧ Has E w'' (h' :: G))
    (fin : ∀ (vs : Nat → Value) (hs : Nat → List Hp) w', (∀ i o, ops[i]? = some o → Tp i (vs i) (hs i) (msk ops i vs)) → Has E w' (F ++ (List.range ops.length).map hs) → Q .normal (Go.Q.fr N (puts vs ops 0 r)) w') :
    (Code.region id ops.toArray true).wp P Q (Go.Q.fr N r) w := by
  refine wp_region_any hm ?_
  -- the state while some are done
  let Inv : Array Bool → Act → World → Prop := fun listed a w => listed.size = ops.length ∧ (∀ i, listed.getD i false = true → ∀ d ∈ depsOf ops i, listed.getD d false = true) ∧
    ∃ r' hs, a = Go.Q.fr N r' ∧ Has E w (F ++ (List.range ops.length).map hs) ∧ (∀ i o, ops[i]? = some o → if listed.getD i false = true then o.dst.isSome = true ∧ Tp i (slot r' o) (hs i) (msk ops i (vsOf ops r')) ∨ o.dst = none ∧ Tp i undef (hs i) (msk ops i (vsOf ops r')) else hs i = C i) ∧
    (∀ t, (∀ i o, ops[i]? = some o → o.dst = some t → listed.getD i false = false) → r' t = r t)
  have key : ∀ fuel listed a w, Inv listed a w → (List.range ops.length).countP (fun i => !listed.getD i false) ≤ fuel → wpAny P .any ops.toArray Q fuel listed a w := by
    have ready0 : ∀ listed : Array Bool, listed.size = ops.length → Region.ready .any ops.toArray listed = [] → ∀ i, i < ops.length → listed.getD i false = true := by
      intro listed hsz hr i
      induction i using Nat.strongRecOn with
      | _ i ih =>
        intro hi
        cases hl : listed.getD i false with
        | true => rfl
        | false =>
          exfalso
          obtain ⟨o, ho⟩ : ∃ o, ops[i]? = some o := ⟨_, List.getElem?_eq_getElem hi⟩
          have : i ∈ Region.ready .any ops.toArray listed := by
            refine mem_ready.2 ⟨?_, o, by simpa using ho, fun e he hb => ?_⟩
            · have : i < listed.size := by omega
              simp [this] at hl ⊢; exact hl
            · have hd := mem_depsOf ho he hb
              have hlt := (flowOk3_spec hok ho).1 _ hd
              exact ih _ hlt (by omega)
          rw [hr] at this; cases this
    have fin' : ∀ listed a w, Inv listed a w → Region.ready .any ops.toArray listed = [] → Q .normal a w := by
      rintro listed a w ⟨hsz, _, r', hs, rfl, hH, hT, hold⟩ hr
      have hall := ready0 listed hsz hr
      let vs : Nat → Value := vsOf ops r'
      have e : Go.Q.fr N r' = Go.Q.fr N (puts vs ops 0 r) := by
        refine fr_congr fun t _ => ?_
        by_cases hex : ∃ (i : Nat) (o : Oper), ops[i]? = some o ∧ o.dst = some t
        · obtain ⟨i, o, ho, hd⟩ := hex
          rw [puts_new vs ops 0 i r o t ho hd (fun j o' hj hne => (flowOk3_spec hok ho).2 j o' t hj hne hd)]
          simp [vs, vsOf, ho, slot, hd]
        · rw [puts_old vs ops 0 r t (fun o ho hd => by obtain ⟨j, hj⟩ := List.getElem?_of_mem ho; exact hex ⟨j, o, hj, hd⟩)]
          exact hold t (fun i o ho hd => absurd ⟨i, o, ho, hd⟩ hex)
      rw [e]
      refine fin vs hs w (fun i o ho => ?_) hH
      have := hT i o ho
      rw [if_pos (hall i (List.getElem?_eq_some_iff.1 ho).1)] at this
      have hvs : vs i = slot r' o := by simp only [vs, vsOf, ho]
      rw [hvs]
      rcases this with ⟨_, h⟩ | ⟨hn, h⟩
      · exact h
      · unfold slot; rw [hn]; exact h
    intro fuel
    induction fuel with
    | zero =>
      intro listed a w hI hc
      have hr : Region.ready .any ops.toArray listed = [] := by
        rw [List.eq_nil_iff_forall_not_mem]
        intro i hi
        obtain ⟨h0, o, ho, _⟩ := mem_ready.1 hi
        have hlt : i < ops.length := by simpa using (Array.getElem?_eq_some_iff.1 ho).1
        have : listed.getD i false = false := by
          have hs : i < listed.size := by rw [hI.1]; exact hlt
          simp [hs] at h0 ⊢; exact h0
        have hp : 0 < (List.range ops.length).countP (fun i => !listed.getD i false) := List.countP_pos_iff.2 ⟨i, List.mem_range.2 hlt, by rw [this]; rfl⟩
        omega
      exact ⟨hr, fin' listed a w hI hr⟩
    | succ fuel ih =>
      intro listed a w hI hc
      refine ⟨fin' listed a w hI, fun i hi => ?_⟩
      obtain ⟨hsz, hcl, r', hs, rfl, hH, hT, hold⟩ := hI
      obtain ⟨h0, o, ho', hdone⟩ := mem_ready.1 hi
      have ho : ops[i]? = some o := by simpa using ho'
      have hlt : i < ops.length := (List.getElem?_eq_some_iff.1 ho).1
      have hli : listed.getD i false = false := by
        have hs : i < listed.size := by omega
        simp [hs] at h0 ⊢; exact h0
      obtain ⟨hdlt, hdist⟩ := flowOk3_spec hok ho
      have hdeps : ∀ d ∈ depsOf ops i, listed.getD d false = true := by
        intro d hd
        unfold depsOf at hd
        rw [ho] at hd
        obtain ⟨e, he, heq⟩ := List.mem_filterMap.1 hd
        split at heq
        · cases heq; exact hdone e (by simpa using he) (by assumption)
        · cases heq
      -- the heaplets: the one at i in front
      let G : List (List Hp) := F ++ ((List.range i).map hs ++ (List.range' (i + 1) (ops.length - (i + 1))).map hs)
      have hsplit : List.range ops.length = List.range i ++ i :: List.range' (i + 1) (ops.length - (i + 1)) := by
        rw [List.range_eq_range', List.range_eq_range', show i :: List.range' (i + 1) (ops.length - (i + 1)) = List.range' i (ops.length - i) from by
          rw [show ops.length - i = (ops.length - (i + 1)) + 1 by omega, List.range'_succ]]
        have := List.range'_append_1 (s := 0) (m := i) (n := ops.length - i)
        rw [Nat.zero_add] at this
        rw [this]; congr 1; omega
      have mapsplit : ∀ f : Nat → List Hp, (List.range ops.length).map f = (List.range i).map f ++ f i :: (List.range' (i + 1) (ops.length - (i + 1))).map f := by
        intro f; rw [hsplit]; simp
      have hperm : ∀ f : Nat → List Hp, (F ++ (List.range ops.length).map f).Perm (f i :: (F ++ ((List.range i).map f ++ (List.range' (i + 1) (ops.length - (i + 1))).map f))) := by
        intro f
        rw [mapsplit f, ← List.append_assoc, ← List.append_assoc]
        exact List.perm_middle
      have hhi : hs i = C i := by have := hT i o ho; rw [if_neg (by rw [hli]; simp)] at this; exact this
      have inG : ∀ j, j < ops.length → j ≠ i → hs j ∈ G := by
        intro j hj hne
        refine List.mem_append_right _ ?_
        rcases Nat.lt_or_gt_of_ne hne with h | h
        · exact List.mem_append_left _ (List.mem_map.2 ⟨j, List.mem_range.2 h, rfl⟩)
        · exact List.mem_append_right _ (List.mem_map.2 ⟨j, by rw [List.mem_range'_1]; omega, rfl⟩)
      have subG : ∀ s ∈ G, s ⊆ G.flatten := fun s hs' x hx => List.mem_flatten.2 ⟨s, hs', hx⟩
      have ancNe : ∀ j, listed.getD j false = true → j ≠ i := fun j hj e => by rw [e, hli] at hj; cases hj
      have turn : Turn3 E ops F C Tp N r i r' w G hs := by
        refine ⟨?_, fun s hs' => subG s (List.mem_append_left _ hs'), fun j oj hoj hanc => ?_, fun j hanc => ?_, fun t ht => ?_, fun j oj hoj hne => ?_⟩
        · rw [← hhi]; exact hH.perm (hperm hs).symm
        · have hl := anc_trans3 hok hcl _ i j hanc hdeps
          refine ⟨?_, subG _ (inG j (List.getElem?_eq_some_iff.1 hoj).1 (ancNe j hl))⟩
          have := hT j oj hoj
          rw [if_pos hl] at this
          rcases this with ⟨_, h⟩ | ⟨hn, h⟩
          · exact h
          · unfold slot; rw [hn]; exact h
        · cases hj : ops[j]? with
          | none =>
            exfalso
            unfold anc at hanc
            split at hanc
            · cases hanc
            · simp [depsOf, hj] at hanc
          | some oj =>
            have hnl : listed.getD j false = false := by
              cases hl : listed.getD j false with
              | false => rfl
              | true =>
                have := anc_trans3 hok hcl _ j i hanc (hcl j hl)
                rw [hli] at this; cases this
            have hjl := (List.getElem?_eq_some_iff.1 hj).1
            have hne : j ≠ i := by
              rintro rfl
              have := anc_trans3 hok hcl _ j j hanc hdeps
              rw [hli] at this; cases this
            have := hT j oj hj
            rw [if_neg (by rw [hnl]; simp)] at this
            rw [← this]; exact subG _ (inG j hjl hne)
        · refine hold t (fun j oj hoj hd => ?_)
          rcases ht j oj hoj hd with rfl | hanc
          · exact hli
          · cases hl : listed.getD j false with
            | false => rfl
            | true =>
              have := anc_trans3 hok hcl _ j i hanc (hcl j hl)
              rw [hli] at this; cases this
        · have hG := subG _ (inG j (List.getElem?_eq_some_iff.1 hoj).1 hne)
          have := hT j oj hoj
          cases hl : listed.getD j false with
          | true =>
            rw [if_pos hl] at this
            rcases this with ⟨_, h⟩ | ⟨_, h⟩
            · exact .inr ⟨⟨_, _, h⟩, hG⟩
            · exact .inr ⟨⟨_, _, h⟩, hG⟩
          | false =>
            rw [if_neg (by rw [hl]; simp)] at this
            rw [← this]; exact .inl hG
      have hstep := step i o ho r' w G hs turn
      have hnext : ∀ (v : Value) (w'' : World), (∃ h', Tp i (match o.dst with | some _ => v | none => undef) h' (msk ops i (vsOf ops r')) ∧ Has E w'' (h' :: G)) →
          wpAny P .any ops.toArray Q fuel (listed.setIfInBounds i true) ((Go.Q.fr N r').put o.dst v) w'' := ?_
      · exact GOK.wp ho' hstep hnext
      rintro v w'' ⟨h', hTi, hH'⟩
      refine ih _ _ _ ⟨by simpa using hsz, ?_, ?_⟩ ?_
      · intro j hj d hd
        by_cases hji : i = j
        · subst hji; exact getD_set_true (hdeps d hd)
        · rw [getD_set_ne false hji] at hj
          exact getD_set_true (hcl j hj d hd)
      · let hs' : Nat → List Hp := fun j => if j = i then h' else hs j
        have hsG : F ++ ((List.range i).map hs' ++ (List.range' (i + 1) (ops.length - (i + 1))).map hs') = G := by
          have e1 : (List.range i).map hs' = (List.range i).map hs := List.map_congr_left fun j hj => by
            have := List.mem_range.1 hj; simp only [hs']; rw [if_neg (by omega)]
          have e2 : (List.range' (i + 1) (ops.length - (i + 1))).map hs' = (List.range' (i + 1) (ops.length - (i + 1))).map hs := List.map_congr_left fun j hj => by
            have := List.mem_range'_1.1 hj; simp only [hs']; rw [if_neg (by omega)]
          rw [e1, e2]
        have hH2 : Has E w'' (F ++ (List.range ops.length).map hs') := by
          refine hH'.perm ((hperm hs').trans ?_)
          rw [hsG]
          simp [hs']
        have hset : ∀ j, j ≠ i → (listed.setIfInBounds i true).getD j false = listed.getD j false := fun j hj => getD_set_ne false (Ne.symm hj)
        have hseti : (listed.setIfInBounds i true).getD i false = true := by
          have : i < listed.size := by omega
          simp [this]
        cases hd : o.dst with
        | none =>
          refine ⟨r', hs', by rw [fr_put_none], hH2, fun j oj hoj => ?_, fun t ht => hold t fun j oj hoj hdj => ?_⟩
          · by_cases hji : j = i
            · subst hji
              rw [ho] at hoj; cases hoj
              rw [if_pos hseti]
              rw [hd] at hTi
              exact .inr ⟨hd, by simpa [hs'] using hTi⟩
            · rw [hset j hji]
              have := hT j oj hoj
              simpa [hs', hji] using this
          · by_cases hji : j = i
            · subst hji; exact hli
            · have := ht j oj hoj hdj; rwa [hset j hji] at this
        | some d =>
          refine ⟨upd r' d v, hs', by rw [fr_put], hH2, fun j oj hoj => ?_, fun t ht => ?_⟩
          · by_cases hji : j = i
            · subst hji
              rw [ho] at hoj; cases hoj
              rw [if_pos hseti]
              refine .inl ⟨by rw [hd]; rfl, ?_⟩
              rw [hd] at hTi
              rw [msk_upd3 hok ho hd (fun k hk => ancNe k (anc_trans3 hok hcl _ j k hk hdeps))]
              simp only [slot, hd, upd_same, hs', if_true]; exact hTi
            · rw [hset j hji]
              have := hT j oj hoj
              have hne : oj.dst ≠ some d := hdist j oj d hoj hji hd
              have hsl : slot (upd r' d v) oj = slot r' oj := by
                unfold slot
                cases hdj : oj.dst with
                | none => rfl
                | some t => exact upd_ne _ _ (fun e => hne (by rw [hdj, e]))
              cases hlj : listed.getD j false with
              | true =>
                rw [msk_upd3 hok ho hd (fun k hk => ancNe k (anc_trans3 hok hcl _ j k hk (hcl j hlj)))]
                simpa [hs', hji, hsl, hlj] using this
              | false => simpa [hs', hji, hlj] using this
          · have hne : t ≠ d := by
              rintro rfl
              have := ht i o ho hd
              rw [hseti] at this; cases this
            rw [upd_ne _ _ hne]
            refine hold t fun j oj hoj hdj => ?_
            by_cases hji : j = i
            · subst hji; exact hli
            · have := ht j oj hoj hdj; rwa [hset j hji] at this
      · have : (List.range ops.length).countP (fun j => !(listed.setIfInBounds i true).getD j false) < (List.range ops.length).countP (fun j => !listed.getD j false) := by
          have hset : ∀ j, j ≠ i → (listed.setIfInBounds i true).getD j false = listed.getD j false := fun j hj => getD_set_ne false (Ne.symm hj)
          have hseti : (listed.setIfInBounds i true).getD i false = true := by
            have : i < listed.size := by omega
            simp [this]
          rw [hsplit, List.countP_append, List.countP_cons, List.countP_append, List.countP_cons, hseti, hli]
          have e1 : (List.range i).countP (fun j => !(listed.setIfInBounds i true).getD j false) = (List.range i).countP (fun j => !listed.getD j false) :=
            List.countP_congr fun j hj => by have := List.mem_range.1 hj; rw [hset j (by omega)]
          have e2 : (List.range' (i + 1) (ops.length - (i + 1))).countP (fun j => !(listed.setIfInBounds i true).getD j false) = (List.range' (i + 1) (ops.length - (i + 1))).countP (fun j => !listed.getD j false) :=
            List.countP_congr fun j hj => by have := List.mem_range'_1.1 hj; rw [hset j (by omega)]
          rw [e1, e2]; simp
        omega
  have h0 : Inv (Array.replicate ops.toArray.size false) (Go.Q.fr N r) { w with drawn := w.drawn + 1 } := by
    have hf : ∀ i, (Array.replicate ops.toArray.size false).getD i false = false := by
      intro i; by_cases h : i < ops.length <;> simp [h]
    refine ⟨by simp, fun i hi => ?_, r, C, rfl, H.drew _, fun i o _ => ?_, fun _ _ => rfl⟩
    · rw [hf] at hi; cases hi
    · rw [if_neg (by rw [hf]; simp)]
  refine key _ _ _ _ h0 ?_
  refine Nat.le_trans List.countP_le_length (by simp)

theorem Turn3.was {E : World} {ops : List Oper} {F : List (List Hp)} {C : Nat → List Hp} {Tp : Nat → Value → List Hp → (Nat → Value) → Prop} {N : Nat} {r : Nat → Value} {i : Nat} {r' : Nat → Value} {w : World} {G : List (List Hp)} {hs : Nat → List Hp}
    (H : Turn3 E ops F C Tp N r i r' w G hs) (t : Nat) (h : oldB ops i t = true) : r' t = r t := by
  refine H.old t fun j o ho hd => ?_
  unfold oldB at h
  rw [List.all_eq_true] at h
  have := h j (List.mem_range.2 (List.getElem?_eq_some_iff.1 ho).1)
  simp only [ho, Bool.or_eq_true, bne_iff_ne, beq_iff_eq] at this
  rcases this with (h | h) | h
  · exact absurd hd h
  · exact .inl h
  · exact .inr h
end Go.Q
namespace Go.Q
/-- From m on each operation comes behind all that are ahead of it. -/
def seqB (ops : List Oper) (m : Nat) : Bool := (List.range' m (ops.length - m)).all fun i => (List.range i).all fun j => anc ops ops.length i j
theorem seqB_spec {ops : List Oper} {m : Nat} (h : seqB ops m = true) : ∀ i j, m ≤ i → i < ops.length → j < i → anc ops ops.length i j = true := fun i j h1 h2 h3 => by
  unfold seqB at h
  rw [List.all_eq_true] at h
  have := h i (List.mem_range'_1.2 (by omega))
  rw [List.all_eq_true] at this
  exact this j (List.mem_range.2 h3)
theorem seq_any {P : Program} {Q : Exit → Act → World → Prop} {ops : List Oper} (hok : flowOk3 ops = true) : ∀ (n k : Nat) (listed : Array Bool) (a : Act) (w : World), k + n = ops.length → listed.size = ops.length → (∀ i, i < k → listed.getD i false = true) → (∀ i, k ≤ i → listed.getD i false = false) →
    (∀ i j, k ≤ i → i < ops.length → j < i → anc ops ops.length i j = true) → wpOps P ops.toArray Q (List.range' k n) a w → ∀ fuel, n ≤ fuel → wpAny P .any ops.toArray Q fuel listed a w
  | 0, k, listed, a, w, hk, hsz, hall, hnot, hsq, h, fuel, hf => by
    have hr : Region.ready .any ops.toArray listed = [] := by
      rw [List.eq_nil_iff_forall_not_mem]
      intro i hi
      obtain ⟨h0, o, ho, _⟩ := mem_ready.1 hi
      have hlt : i < ops.length := by simpa using (Array.getElem?_eq_some_iff.1 ho).1
      have h1 := hall i (by omega)
      have hs : i < listed.size := by omega
      simp [hs] at h0 h1; rw [h0] at h1; cases h1
    cases fuel with
    | zero => exact ⟨hr, h⟩
    | succ f => exact ⟨fun _ => h, fun i hi => by rw [hr] at hi; cases hi⟩
  | n + 1, k, listed, a, w, hk, hsz, hall, hnot, hsq, h, fuel, hf => by
    obtain ⟨f, rfl⟩ : ∃ f, fuel = f + 1 := ⟨fuel - 1, by omega⟩
    have hlk : k < ops.length := by omega
    have hcl : ∀ i, listed.getD i false = true → ∀ d ∈ depsOf ops i, listed.getD d false = true := fun i hi d hd => by
      have hik : i < k := by
        rcases Nat.lt_or_ge i k with g | g
        · exact g
        · rw [hnot i g] at hi; cases hi
      have := (flowOk3_spec hok (List.getElem?_eq_getElem (show i < ops.length by omega))).1 d hd
      exact hall d (by omega)
    have hkr : k ∈ Region.ready .any ops.toArray listed := by
      refine mem_ready.2 ⟨?_, ops[k], by simp [hlk], fun e he hb => ?_⟩
      · have h1 := hnot k (Nat.le_refl _)
        have hs : k < listed.size := by omega
        simp [hs] at h1 ⊢; exact h1
      · have hd := mem_depsOf (List.getElem?_eq_getElem hlk) he hb
        exact hall _ ((flowOk3_spec hok (List.getElem?_eq_getElem hlk)).1 _ hd)
    refine ⟨fun hr => (by rw [hr] at hkr; cases hkr), fun i hi => ?_⟩
    obtain ⟨h0, o, ho, hdone⟩ := mem_ready.1 hi
    have hlt : i < ops.length := by simpa using (Array.getElem?_eq_some_iff.1 ho).1
    have hli : listed.getD i false = false := by
      have hs : i < listed.size := by omega
      simp [hs] at h0 ⊢; exact h0
    have hdeps : ∀ d ∈ depsOf ops i, listed.getD d false = true := by
      intro d hd
      unfold depsOf at hd
      rw [show ops[i]? = some o by simpa using ho] at hd
      obtain ⟨e, he, heq⟩ := List.mem_filterMap.1 hd
      split at heq
      · cases heq; exact hdone e (by simpa using he) (by assumption)
      · cases heq
    have hik : i = k := by
      rcases Nat.lt_trichotomy i k with g | g | g
      · rw [hall i g] at hli; cases hli
      · exact g
      · have := anc_trans3 hok hcl _ i k (hsq i k (by omega) hlt g) hdeps
        rw [hnot k (Nat.le_refl _)] at this; cases this
    subst hik
    rw [List.range'_succ, wpOps_cons] at h
    refine wpOp_mono (fun a' w' h' => ?_) h
    refine seq_any hok n (i + 1) _ a' w' (by omega) (by simpa using hsz) (fun j hj => ?_) (fun j hj => ?_) (fun j l h1 h2 h3 => hsq j l (by omega) h2 h3) h' f (by omega)
    · by_cases e : i = j
      · subst e
        have : i < listed.size := by omega
        simp [this]
      · rw [getD_set_ne false e]; exact hall j (by omega)
    · rw [getD_set_ne false (show i ≠ j by omega)]; exact hnot j (by omega)
theorem c_flow4 {P : Program} {Q : Exit → Act → World → Prop} {E w : World} {N : Nat} {r : Nat → Value} {id : Nat} {ops : List Oper} (F : List (List Hp)) (C : Nat → List Hp) (Tp : Nat → Value → List Hp → (Nat → Value) → Prop)
    (hm : P.follows .mixedOrders = true) (m : Nat) (hok : flowOk3 ops = true) (hml : m ≤ ops.length) (hsqb : seqB ops m = true) (H : Has E w (F ++ (List.range ops.length).map C))
    (step : ∀ i o, i < m → ops[i]? = some o → ∀ r' w' G hs, Turn3 E ops F C Tp N r i r' w' G hs → GOK P ops o N r' w' fun v w'' => ∃ h', Tp i (match o.dst with | some _ => v | none => undef) h' (msk ops i (vsOf ops r')) ∧ Has E w'' (h' :: G))
    (fin : ∀ (vs : Nat → Value) (hs : Nat → List Hp) w', (∀ i o, i < m → ops[i]? = some o → Tp i (vs i) (hs i) (msk ops i vs)) → (∀ i, m ≤ i → i < ops.length → hs i = C i) → Has E w' (F ++ (List.range ops.length).map hs) → wpList P ops.toArray Q (ops.drop m) (Go.Q.fr N (puts vs (ops.take m) 0 r)) w') :
    (Code.region id ops.toArray true).wp P Q (Go.Q.fr N r) w := by
  have hsq := seqB_spec hsqb
  refine wp_region_any hm ?_
  -- the state while some are done
  let Inv : Array Bool → Act → World → Prop := fun listed a w => listed.size = ops.length ∧ (∀ i, m ≤ i → listed.getD i false = false) ∧ (∀ i, listed.getD i false = true → ∀ d ∈ depsOf ops i, listed.getD d false = true) ∧
    ∃ r' hs, a = Go.Q.fr N r' ∧ Has E w (F ++ (List.range ops.length).map hs) ∧ (∀ i o, ops[i]? = some o → if listed.getD i false = true then o.dst.isSome = true ∧ Tp i (slot r' o) (hs i) (msk ops i (vsOf ops r')) ∨ o.dst = none ∧ Tp i undef (hs i) (msk ops i (vsOf ops r')) else hs i = C i) ∧
    (∀ t, (∀ i o, ops[i]? = some o → o.dst = some t → listed.getD i false = false) → r' t = r t)
  have key : ∀ fuel listed a w, Inv listed a w → (List.range ops.length).countP (fun i => !listed.getD i false) ≤ fuel → wpAny P .any ops.toArray Q fuel listed a w := by
    have ready0 : ∀ listed : Array Bool, listed.size = ops.length → Region.ready .any ops.toArray listed = [] → ∀ i, i < ops.length → listed.getD i false = true := by
      intro listed hsz hr i
      induction i using Nat.strongRecOn with
      | _ i ih =>
        intro hi
        cases hl : listed.getD i false with
        | true => rfl
        | false =>
          exfalso
          obtain ⟨o, ho⟩ : ∃ o, ops[i]? = some o := ⟨_, List.getElem?_eq_getElem hi⟩
          have : i ∈ Region.ready .any ops.toArray listed := by
            refine mem_ready.2 ⟨?_, o, by simpa using ho, fun e he hb => ?_⟩
            · have : i < listed.size := by omega
              simp [this] at hl ⊢; exact hl
            · have hd := mem_depsOf ho he hb
              have hlt := (flowOk3_spec hok ho).1 _ hd
              exact ih _ hlt (by omega)
          rw [hr] at this; cases this
    have fin' : ∀ fuel listed a w, Inv listed a w → (List.range ops.length).countP (fun i => !listed.getD i false) ≤ fuel → (∀ i, i < m → listed.getD i false = true) → wpAny P .any ops.toArray Q fuel listed a w := by
      rintro fuel listed a w ⟨hsz, hnot, _, r', hs, rfl, hH, hT, hold⟩ hc hall
      let vs : Nat → Value := vsOf ops r'
      have htk : ∀ j o', (ops.take m)[j]? = some o' → ops[j]? = some o' ∧ j < m := fun j o' hj => by
        rw [List.getElem?_take] at hj
        split at hj
        · exact ⟨hj, by assumption⟩
        · cases hj
      have e : Go.Q.fr N r' = Go.Q.fr N (puts vs (ops.take m) 0 r) := by
        refine fr_congr fun t _ => ?_
        by_cases hex : ∃ (i : Nat) (o : Oper), (ops.take m)[i]? = some o ∧ o.dst = some t
        · obtain ⟨i, o, ho, hd⟩ := hex
          rw [puts_new vs (ops.take m) 0 i r o t ho hd (fun j o' hj hne => (flowOk3_spec hok (htk i o ho).1).2 j o' t (htk j o' hj).1 hne hd)]
          simp [vs, vsOf, (htk i o ho).1, slot, hd]
        · rw [puts_old vs (ops.take m) 0 r t (fun o ho hd => by obtain ⟨j, hj⟩ := List.getElem?_of_mem ho; exact hex ⟨j, o, hj, hd⟩)]
          refine hold t (fun i o ho hd => ?_)
          rcases Nat.lt_or_ge i m with g | g
          · exact absurd ⟨i, o, by rw [List.getElem?_take, if_pos g]; exact ho, hd⟩ hex
          · exact hnot i g
      have hw := fin vs hs w (fun i o hi ho => by
        have := hT i o ho
        rw [if_pos (hall i hi)] at this
        have hvs : vs i = slot r' o := by simp only [vs, vsOf, ho]
        rw [hvs]
        rcases this with ⟨_, h⟩ | ⟨hn, h⟩
        · exact h
        · unfold slot; rw [hn]; exact h) (fun i hi hl => by
        have := hT i _ (List.getElem?_eq_getElem hl)
        rw [if_neg (by rw [hnot i hi]; simp)] at this; exact this) hH
      rw [← e] at hw
      have hcount : ops.length - m ≤ (List.range ops.length).countP (fun i => !listed.getD i false) := by
        have : List.range ops.length = List.range m ++ List.range' m (ops.length - m) := by
          have := List.range'_append_1 (s := 0) (m := m) (n := ops.length - m)
          rw [Nat.zero_add] at this
          rw [List.range_eq_range', List.range_eq_range', this]; congr 1; omega
        rw [this, List.countP_append]
        have h2 : (List.range' m (ops.length - m)).countP (fun i => !listed.getD i false) = (List.range' m (ops.length - m)).length := by
          rw [List.countP_eq_length]
          intro i hi
          rw [hnot i (by have := List.mem_range'_1.1 hi; omega)]; rfl
        rw [h2, List.length_range']; omega
      refine seq_any hok (ops.length - m) m listed _ w (by omega) hsz hall hnot hsq ?_ fuel (by omega)
      have := wpOps_eq_wpList (P := P) (Q := Q) (ops := ops.toArray) (ops.drop m) m (fun j => by simp)
      rw [List.length_drop] at this
      rw [this]; exact hw
    intro fuel
    induction fuel with
    | zero =>
      intro listed a w hI hc
      refine fin' 0 listed a w hI hc fun i hi => ?_
      cases hl : listed.getD i false with
      | true => rfl
      | false =>
        have hp : 0 < (List.range ops.length).countP (fun i => !listed.getD i false) := List.countP_pos_iff.2 ⟨i, List.mem_range.2 (by omega), by rw [hl]; rfl⟩
        omega
    | succ fuel ih =>
      intro listed a w hI hc
      by_cases hall : ∀ i, i < m → listed.getD i false = true
      · exact fin' _ listed a w hI hc hall
      refine ⟨fun hr => absurd (fun i hi => ready0 listed hI.1 hr i (by omega)) hall, fun i hi => ?_⟩
      obtain ⟨hsz, hnot, hcl, r', hs, rfl, hH, hT, hold⟩ := hI
      obtain ⟨h0, o, ho', hdone⟩ := mem_ready.1 hi
      have ho : ops[i]? = some o := by simpa using ho'
      have hlt : i < ops.length := (List.getElem?_eq_some_iff.1 ho).1
      have hli : listed.getD i false = false := by
        have hs : i < listed.size := by omega
        simp [hs] at h0 ⊢; exact h0
      obtain ⟨hdlt, hdist⟩ := flowOk3_spec hok ho
      have hdeps : ∀ d ∈ depsOf ops i, listed.getD d false = true := by
        intro d hd
        unfold depsOf at hd
        rw [ho] at hd
        obtain ⟨e, he, heq⟩ := List.mem_filterMap.1 hd
        split at heq
        · cases heq; exact hdone e (by simpa using he) (by assumption)
        · cases heq
      have him : i < m := by
        rcases Nat.lt_or_ge i m with g | g
        · exact g
        · exact absurd (fun j hj => anc_trans3 hok hcl _ i j (hsq i j g hlt (by omega)) hdeps) hall
      -- the heaplets: the one at i in front
      let G : List (List Hp) := F ++ ((List.range i).map hs ++ (List.range' (i + 1) (ops.length - (i + 1))).map hs)
      have hsplit : List.range ops.length = List.range i ++ i :: List.range' (i + 1) (ops.length - (i + 1)) := by
        rw [List.range_eq_range', List.range_eq_range', show i :: List.range' (i + 1) (ops.length - (i + 1)) = List.range' i (ops.length - i) from by
          rw [show ops.length - i = (ops.length - (i + 1)) + 1 by omega, List.range'_succ]]
        have := List.range'_append_1 (s := 0) (m := i) (n := ops.length - i)
        rw [Nat.zero_add] at this
        rw [this]; congr 1; omega
      have mapsplit : ∀ f : Nat → List Hp, (List.range ops.length).map f = (List.range i).map f ++ f i :: (List.range' (i + 1) (ops.length - (i + 1))).map f := by
        intro f; rw [hsplit]; simp
      have hperm : ∀ f : Nat → List Hp, (F ++ (List.range ops.length).map f).Perm (f i :: (F ++ ((List.range i).map f ++ (List.range' (i + 1) (ops.length - (i + 1))).map f))) := by
        intro f
        rw [mapsplit f, ← List.append_assoc, ← List.append_assoc]
        exact List.perm_middle
      have hhi : hs i = C i := by have := hT i o ho; rw [if_neg (by rw [hli]; simp)] at this; exact this
      have inG : ∀ j, j < ops.length → j ≠ i → hs j ∈ G := by
        intro j hj hne
        refine List.mem_append_right _ ?_
        rcases Nat.lt_or_gt_of_ne hne with h | h
        · exact List.mem_append_left _ (List.mem_map.2 ⟨j, List.mem_range.2 h, rfl⟩)
        · exact List.mem_append_right _ (List.mem_map.2 ⟨j, by rw [List.mem_range'_1]; omega, rfl⟩)
      have subG : ∀ s ∈ G, s ⊆ G.flatten := fun s hs' x hx => List.mem_flatten.2 ⟨s, hs', hx⟩
      have ancNe : ∀ j, listed.getD j false = true → j ≠ i := fun j hj e => by rw [e, hli] at hj; cases hj
      have turn : Turn3 E ops F C Tp N r i r' w G hs := by
        refine ⟨?_, fun s hs' => subG s (List.mem_append_left _ hs'), fun j oj hoj hanc => ?_, fun j hanc => ?_, fun t ht => ?_, fun j oj hoj hne => ?_⟩
        · rw [← hhi]; exact hH.perm (hperm hs).symm
        · have hl := anc_trans3 hok hcl _ i j hanc hdeps
          refine ⟨?_, subG _ (inG j (List.getElem?_eq_some_iff.1 hoj).1 (ancNe j hl))⟩
          have := hT j oj hoj
          rw [if_pos hl] at this
          rcases this with ⟨_, h⟩ | ⟨hn, h⟩
          · exact h
          · unfold slot; rw [hn]; exact h
        · cases hj : ops[j]? with
          | none =>
            exfalso
            unfold anc at hanc
            split at hanc
            · cases hanc
            · simp [depsOf, hj] at hanc
          | some oj =>
            have hnl : listed.getD j false = false := by
              cases hl : listed.getD j false with
              | false => rfl
              | true =>
                have := anc_trans3 hok hcl _ j i hanc (hcl j hl)
                rw [hli] at this; cases this
            have hjl := (List.getElem?_eq_some_iff.1 hj).1
            have hne : j ≠ i := by
              rintro rfl
              have := anc_trans3 hok hcl _ j j hanc hdeps
              rw [hli] at this; cases this
            have := hT j oj hj
            rw [if_neg (by rw [hnl]; simp)] at this
            rw [← this]; exact subG _ (inG j hjl hne)
        · refine hold t (fun j oj hoj hd => ?_)
          rcases ht j oj hoj hd with rfl | hanc
          · exact hli
          · cases hl : listed.getD j false with
            | false => rfl
            | true =>
              have := anc_trans3 hok hcl _ j i hanc (hcl j hl)
              rw [hli] at this; cases this
        · have hG := subG _ (inG j (List.getElem?_eq_some_iff.1 hoj).1 hne)
          have := hT j oj hoj
          cases hl : listed.getD j false with
          | true =>
            rw [if_pos hl] at this
            rcases this with ⟨_, h⟩ | ⟨_, h⟩
            · exact .inr ⟨⟨_, _, h⟩, hG⟩
            · exact .inr ⟨⟨_, _, h⟩, hG⟩
          | false =>
            rw [if_neg (by rw [hl]; simp)] at this
            rw [← this]; exact .inl hG
      have hstep := step i o him ho r' w G hs turn
      have hnext : ∀ (v : Value) (w'' : World), (∃ h', Tp i (match o.dst with | some _ => v | none => undef) h' (msk ops i (vsOf ops r')) ∧ Has E w'' (h' :: G)) →
          wpAny P .any ops.toArray Q fuel (listed.setIfInBounds i true) ((Go.Q.fr N r').put o.dst v) w'' := ?_
      · exact GOK.wp ho' hstep hnext
      rintro v w'' ⟨h', hTi, hH'⟩
      refine ih _ _ _ ⟨by simpa using hsz, fun j hj => by rw [getD_set_ne false (show i ≠ j by omega)]; exact hnot j hj, ?_, ?_⟩ ?_
      · intro j hj d hd
        by_cases hji : i = j
        · subst hji; exact getD_set_true (hdeps d hd)
        · rw [getD_set_ne false hji] at hj
          exact getD_set_true (hcl j hj d hd)
      · let hs' : Nat → List Hp := fun j => if j = i then h' else hs j
        have hsG : F ++ ((List.range i).map hs' ++ (List.range' (i + 1) (ops.length - (i + 1))).map hs') = G := by
          have e1 : (List.range i).map hs' = (List.range i).map hs := List.map_congr_left fun j hj => by
            have := List.mem_range.1 hj; simp only [hs']; rw [if_neg (by omega)]
          have e2 : (List.range' (i + 1) (ops.length - (i + 1))).map hs' = (List.range' (i + 1) (ops.length - (i + 1))).map hs := List.map_congr_left fun j hj => by
            have := List.mem_range'_1.1 hj; simp only [hs']; rw [if_neg (by omega)]
          rw [e1, e2]
        have hH2 : Has E w'' (F ++ (List.range ops.length).map hs') := by
          refine hH'.perm ((hperm hs').trans ?_)
          rw [hsG]
          simp [hs']
        have hset : ∀ j, j ≠ i → (listed.setIfInBounds i true).getD j false = listed.getD j false := fun j hj => getD_set_ne false (Ne.symm hj)
        have hseti : (listed.setIfInBounds i true).getD i false = true := by
          have : i < listed.size := by omega
          simp [this]
        cases hd : o.dst with
        | none =>
          refine ⟨r', hs', by rw [fr_put_none], hH2, fun j oj hoj => ?_, fun t ht => hold t fun j oj hoj hdj => ?_⟩
          · by_cases hji : j = i
            · subst hji
              rw [ho] at hoj; cases hoj
              rw [if_pos hseti]
              rw [hd] at hTi
              exact .inr ⟨hd, by simpa [hs'] using hTi⟩
            · rw [hset j hji]
              have := hT j oj hoj
              simpa [hs', hji] using this
          · by_cases hji : j = i
            · subst hji; exact hli
            · have := ht j oj hoj hdj; rwa [hset j hji] at this
        | some d =>
          refine ⟨upd r' d v, hs', by rw [fr_put], hH2, fun j oj hoj => ?_, fun t ht => ?_⟩
          · by_cases hji : j = i
            · subst hji
              rw [ho] at hoj; cases hoj
              rw [if_pos hseti]
              refine .inl ⟨by rw [hd]; rfl, ?_⟩
              rw [hd] at hTi
              rw [msk_upd3 hok ho hd (fun k hk => ancNe k (anc_trans3 hok hcl _ j k hk hdeps))]
              simp only [slot, hd, upd_same, hs', if_true]; exact hTi
            · rw [hset j hji]
              have := hT j oj hoj
              have hne : oj.dst ≠ some d := hdist j oj d hoj hji hd
              have hsl : slot (upd r' d v) oj = slot r' oj := by
                unfold slot
                cases hdj : oj.dst with
                | none => rfl
                | some t => exact upd_ne _ _ (fun e => hne (by rw [hdj, e]))
              cases hlj : listed.getD j false with
              | true =>
                rw [msk_upd3 hok ho hd (fun k hk => ancNe k (anc_trans3 hok hcl _ j k hk (hcl j hlj)))]
                simpa [hs', hji, hsl, hlj] using this
              | false => simpa [hs', hji, hlj] using this
          · have hne : t ≠ d := by
              rintro rfl
              have := ht i o ho hd
              rw [hseti] at this; cases this
            rw [upd_ne _ _ hne]
            refine hold t fun j oj hoj hdj => ?_
            by_cases hji : j = i
            · subst hji; exact hli
            · have := ht j oj hoj hdj; rwa [hset j hji] at this
      · have : (List.range ops.length).countP (fun j => !(listed.setIfInBounds i true).getD j false) < (List.range ops.length).countP (fun j => !listed.getD j false) := by
          have hset : ∀ j, j ≠ i → (listed.setIfInBounds i true).getD j false = listed.getD j false := fun j hj => getD_set_ne false (Ne.symm hj)
          have hseti : (listed.setIfInBounds i true).getD i false = true := by
            have : i < listed.size := by omega
            simp [this]
          rw [hsplit, List.countP_append, List.countP_cons, List.countP_append, List.countP_cons, hseti, hli]
          have e1 : (List.range i).countP (fun j => !(listed.setIfInBounds i true).getD j false) = (List.range i).countP (fun j => !listed.getD j false) :=
            List.countP_congr fun j hj => by have := List.mem_range.1 hj; rw [hset j (by omega)]
          have e2 : (List.range' (i + 1) (ops.length - (i + 1))).countP (fun j => !(listed.setIfInBounds i true).getD j false) = (List.range' (i + 1) (ops.length - (i + 1))).countP (fun j => !listed.getD j false) :=
            List.countP_congr fun j hj => by have := List.mem_range'_1.1 hj; rw [hset j (by omega)]
          rw [e1, e2]; simp
        omega
  have h0 : Inv (Array.replicate ops.toArray.size false) (Go.Q.fr N r) { w with drawn := w.drawn + 1 } := by
    have hf : ∀ i, (Array.replicate ops.toArray.size false).getD i false = false := by
      intro i; by_cases h : i < ops.length <;> simp [h]
    refine ⟨by simp, fun i _ => hf i, fun i hi => ?_, r, C, rfl, H.drew _, fun i o _ => ?_, fun _ _ => rfl⟩
    · rw [hf] at hi; cases hi
    · rw [if_neg (by rw [hf]; simp)]
  refine key _ _ _ _ h0 ?_
  refine Nat.le_trans List.countP_le_length (by simp)

end Go.Q
namespace Go.Q
/-- All that is behind m waits for all that is ahead. -/
def barB (ops : List Oper) (m : Nat) : Bool := (List.range' m (ops.length - m)).all fun i => (List.range m).all fun j => anc ops ops.length i j
theorem barB_spec {ops : List Oper} {m : Nat} (h : barB ops m = true) : ∀ i j, m ≤ i → i < ops.length → j < m → anc ops ops.length i j = true := fun i j h1 h2 h3 => by
  unfold barB at h
  rw [List.all_eq_true] at h
  have := h i (List.mem_range'_1.2 (by omega))
  rw [List.all_eq_true] at this
  exact this j (List.mem_range.2 h3)
/-- What is to be shown where the first m operations are done. -/
def Rest (P : Program) (Q : Exit → Act → World → Prop) (ops : List Oper) (m : Nat) (a : Act) (w : World) : Prop :=
  flowOk3 ops = true → ∀ (fuel : Nat) (listed : Array Bool), listed.size = ops.length → (∀ i, i < m → listed.getD i false = true) → (∀ i, m ≤ i → listed.getD i false = false) → ops.length - m ≤ fuel → wpAny P .any ops.toArray Q fuel listed a w
theorem Rest.region {P : Program} {Q : Exit → Act → World → Prop} {w : World} {N : Nat} {r : Nat → Value} {id : Nat} {ops : List Oper} (hm : P.follows .mixedOrders = true) (hok : flowOk3 ops = true) (h : Rest P Q ops 0 (Go.Q.fr N r) { w with drawn := w.drawn + 1 }) : (Code.region id ops.toArray true).wp P Q (Go.Q.fr N r) w := by
  refine wp_region_any hm (h hok _ _ (by simp) (fun i hi => absurd hi (Nat.not_lt_zero _)) (fun i _ => ?_) (by simp))
  by_cases h : i < ops.length <;> simp [h]
theorem Rest.end {P : Program} {Q : Exit → Act → World → Prop} {ops : List Oper} {a : Act} {w : World} (h : Q .normal a w) : Rest P Q ops ops.length a w := fun _ fuel listed hsz hall _ _ => by
  refine wpAny_done ?_ h fuel
  rw [List.eq_nil_iff_forall_not_mem]
  intro i hi
  obtain ⟨h0, o, ho, _⟩ := mem_ready.1 hi
  have hlt : i < ops.length := by simpa using (Array.getElem?_eq_some_iff.1 ho).1
  have h1 := hall i hlt
  have hs : i < listed.size := by omega
  simp [hs] at h0 h1; rw [h0] at h1; cases h1
theorem Rest.done {P : Program} {Q : Exit → Act → World → Prop} {ops : List Oper} {a : Act} {w : World} {m : Nat} (hm : m = ops.length) (h : Q .normal a w) : Rest P Q ops m a w := hm ▸ Rest.end h
theorem Rest.one {P : Program} {Q : Exit → Act → World → Prop} {ops : List Oper} {N : Nat} {r : Nat → Value} {w : World} {k : Nat} {o : Oper} (ho : ops[k]? = some o) (hb : barB ops (k + 1) = true)
    (h : GOK P ops o N r w fun v w'' => Rest P Q ops (k + 1) ((Go.Q.fr N r).put o.dst v) w'') : Rest P Q ops k (Go.Q.fr N r) w := by
  intro hok fuel listed hsz hall hnot hf
  have hlk : k < ops.length := (List.getElem?_eq_some_iff.1 ho).1
  obtain ⟨f, rfl⟩ : ∃ f, fuel = f + 1 := ⟨fuel - 1, by omega⟩
  have hcl : ∀ i, listed.getD i false = true → ∀ d ∈ depsOf ops i, listed.getD d false = true := fun i hi d hd => by
    have hik : i < k := by
      rcases Nat.lt_or_ge i k with g | g
      · exact g
      · rw [hnot i g] at hi; cases hi
    have := (flowOk3_spec hok (List.getElem?_eq_getElem (show i < ops.length by omega))).1 d hd
    exact hall d (by omega)
  have hkr : k ∈ Region.ready .any ops.toArray listed := by
    refine mem_ready.2 ⟨?_, ops[k], by simp [hlk], fun e he hb => ?_⟩
    · have h1 := hnot k (Nat.le_refl _)
      have hs : k < listed.size := by omega
      simp [hs] at h1 ⊢; exact h1
    · have hd := mem_depsOf (List.getElem?_eq_getElem hlk) he hb
      exact hall _ ((flowOk3_spec hok (List.getElem?_eq_getElem hlk)).1 _ hd)
  refine ⟨fun hr => (by rw [hr] at hkr; cases hkr), fun i hi => ?_⟩
  obtain ⟨h0, o', ho', hdone⟩ := mem_ready.1 hi
  have hlt : i < ops.length := by simpa using (Array.getElem?_eq_some_iff.1 ho').1
  have hli : listed.getD i false = false := by
    have hs : i < listed.size := by omega
    simp [hs] at h0 ⊢; exact h0
  have hdeps : ∀ d ∈ depsOf ops i, listed.getD d false = true := by
    intro d hd
    unfold depsOf at hd
    rw [show ops[i]? = some o' by simpa using ho'] at hd
    obtain ⟨e, he, heq⟩ := List.mem_filterMap.1 hd
    split at heq
    · cases heq; exact hdone e (by simpa using he) (by assumption)
    · cases heq
  have hik : i = k := by
    rcases Nat.lt_trichotomy i k with g | g | g
    · rw [hall i g] at hli; cases hli
    · exact g
    · have := anc_trans3 hok hcl _ i k (barB_spec hb i k (by omega) hlt (by omega)) hdeps
      rw [hnot k (Nat.le_refl _)] at this; cases this
  subst hik
  refine GOK.wp (by simpa using ho) h fun v w'' hk => hk hok f _ (by simpa using hsz) (fun j hj => ?_) (fun j hj => ?_) (by omega)
  · by_cases e : i = j
    · subst e
      have : i < listed.size := by omega
      simp [this]
    · rw [getD_set_ne false e]; exact hall j (by omega)
  · rw [getD_set_ne false (show i ≠ j by omega)]; exact hnot j (by omega)
section
variable {P : Program} {Q : Exit → Act → World → Prop} {ops : List Oper} {N : Nat} {r : Nat → Value} {w : World}
theorem r_op {d : Nat} {op : Op} {T : TypeId} {pos : String} {after : Array Edge} (k : Nat) (ho : ops[k]? = some ⟨some d, op, T, pos, after, none⟩) (hb : barB ops (k + 1) = true)
    (h : OK P ⟨some d, op, T, pos, after, none⟩ (ev N r) w fun v w' => Rest P Q ops (k + 1) (Go.Q.fr N (upd r d v)) w') : Rest P Q ops k (Go.Q.fr N r) w :=
  Rest.one ho hb (GOK.free rfl (h.mono fun v w' hk => by rw [fr_put]; exact hk))
theorem r_eff {op : Op} {T : TypeId} {pos : String} {after : Array Edge} (k : Nat) (ho : ops[k]? = some ⟨none, op, T, pos, after, none⟩) (hb : barB ops (k + 1) = true)
    (h : OK P ⟨none, op, T, pos, after, none⟩ (ev N r) w fun _ w' => Rest P Q ops (k + 1) (Go.Q.fr N r) w') : Rest P Q ops k (Go.Q.fr N r) w :=
  Rest.one ho hb (GOK.free rfl (h.mono fun v w' hk => by rw [fr_put_none]; exact hk))
theorem r_on {d : Nat} {op : Op} {T : TypeId} {pos : String} {after : Array Edge} {g : Nat} {b : Bool} (k : Nat) (ho : ops[k]? = some ⟨some d, op, T, pos, after, some (g, b)⟩) (hb : barB ops (k + 1) = true) (t : Nat) (hgt : dstOf ops g = some t) (hv : ev N r (.tmp t) = .bool b)
    (h : OK P ⟨some d, op, T, pos, after, some (g, b)⟩ (ev N r) w fun v w' => Rest P Q ops (k + 1) (Go.Q.fr N (upd r d v)) w') : Rest P Q ops k (Go.Q.fr N r) w :=
  Rest.one ho hb (GOK.on rfl hgt hv (h.mono fun v w' hk => by rw [fr_put]; exact hk))
theorem r_off {d : Nat} {op : Op} {T : TypeId} {pos : String} {after : Array Edge} {g : Nat} {b b' : Bool} (k : Nat) (ho : ops[k]? = some ⟨some d, op, T, pos, after, some (g, b)⟩) (hb : barB ops (k + 1) = true) (t : Nat) (hgt : dstOf ops g = some t) (hv : ev N r (.tmp t) = .bool b') (hne : (b' == b) = false)
    (h : Rest P Q ops (k + 1) (Go.Q.fr N (upd r d undef)) w) : Rest P Q ops k (Go.Q.fr N r) w :=
  Rest.one ho hb (GOK.off rfl hgt hv hne (by rw [fr_put]; exact h))
theorem r_offu {d : Nat} {op : Op} {T : TypeId} {pos : String} {after : Array Edge} {g : Nat} {b : Bool} (k : Nat) (ho : ops[k]? = some ⟨some d, op, T, pos, after, some (g, b)⟩) (hb : barB ops (k + 1) = true) (t : Nat) (hgt : dstOf ops g = some t) (hv : ev N r (.tmp t) = undef)
    (h : Rest P Q ops (k + 1) (Go.Q.fr N (upd r d undef)) w) : Rest P Q ops k (Go.Q.fr N r) w :=
  Rest.one ho hb (GOK.offu rfl hgt hv (by rw [fr_put]; exact h))
end
theorem Rest.phase {P : Program} {Q : Exit → Act → World → Prop} {E w : World} {N : Nat} {r : Nat → Value} {ops : List Oper} (F : List (List Hp)) (C : Nat → List Hp) (Tp : Nat → Value → List Hp → (Nat → Value) → Prop)
    (m0 m : Nat) (hml : m ≤ ops.length) (hm0 : m0 ≤ m) (hbar : barB ops m = true) (H : Has E w (F ++ (List.range ops.length).map C))
    (done0 : ∀ i o, i < m0 → ops[i]? = some o → Tp i (slot r o) (C i) (msk ops i (vsOf ops r)))
    (step : ∀ i o, m0 ≤ i → i < m → ops[i]? = some o → ∀ r' w' G hs, Turn3 E ops F C Tp N r i r' w' G hs → GOK P ops o N r' w' fun v w'' => ∃ h', Tp i (match o.dst with | some _ => v | none => undef) h' (msk ops i (vsOf ops r')) ∧ Has E w'' (h' :: G))
    (fin : ∀ (vs : Nat → Value) (hs : Nat → List Hp) w', (∀ i o, i < m → ops[i]? = some o → Tp i (vs i) (hs i) (msk ops i vs)) → (∀ i, m ≤ i → i < ops.length → hs i = C i) → Has E w' (F ++ (List.range ops.length).map hs) → Rest P Q ops m (Go.Q.fr N (puts vs (ops.take m) 0 r)) w') :
    Rest P Q ops m0 (Go.Q.fr N r) w := by
  intro hok fuel0 listed0 hsz0 hall0 hnot0 hf0
  have hsq := barB_spec hbar
  -- the state while some are done
  let Inv : Array Bool → Act → World → Prop := fun listed a w => listed.size = ops.length ∧ (∀ i, i < m0 → listed.getD i false = true) ∧ (∀ i, m ≤ i → listed.getD i false = false) ∧ (∀ i, listed.getD i false = true → ∀ d ∈ depsOf ops i, listed.getD d false = true) ∧
    ∃ r' hs, a = Go.Q.fr N r' ∧ Has E w (F ++ (List.range ops.length).map hs) ∧ (∀ i o, ops[i]? = some o → if listed.getD i false = true then o.dst.isSome = true ∧ Tp i (slot r' o) (hs i) (msk ops i (vsOf ops r')) ∨ o.dst = none ∧ Tp i undef (hs i) (msk ops i (vsOf ops r')) else hs i = C i) ∧
    (∀ t, (∀ i o, ops[i]? = some o → o.dst = some t → listed.getD i false = false) → r' t = r t)
  have key : ∀ fuel listed a w, Inv listed a w → (List.range ops.length).countP (fun i => !listed.getD i false) ≤ fuel → wpAny P .any ops.toArray Q fuel listed a w := by
    have ready0 : ∀ listed : Array Bool, listed.size = ops.length → Region.ready .any ops.toArray listed = [] → ∀ i, i < ops.length → listed.getD i false = true := by
      intro listed hsz hr i
      induction i using Nat.strongRecOn with
      | _ i ih =>
        intro hi
        cases hl : listed.getD i false with
        | true => rfl
        | false =>
          exfalso
          obtain ⟨o, ho⟩ : ∃ o, ops[i]? = some o := ⟨_, List.getElem?_eq_getElem hi⟩
          have : i ∈ Region.ready .any ops.toArray listed := by
            refine mem_ready.2 ⟨?_, o, by simpa using ho, fun e he hb => ?_⟩
            · have : i < listed.size := by omega
              simp [this] at hl ⊢; exact hl
            · have hd := mem_depsOf ho he hb
              have hlt := (flowOk3_spec hok ho).1 _ hd
              exact ih _ hlt (by omega)
          rw [hr] at this; cases this
    have fin' : ∀ fuel listed a w, Inv listed a w → (List.range ops.length).countP (fun i => !listed.getD i false) ≤ fuel → (∀ i, i < m → listed.getD i false = true) → wpAny P .any ops.toArray Q fuel listed a w := by
      rintro fuel listed a w ⟨hsz, hpre, hnot, _, r', hs, rfl, hH, hT, hold⟩ hc hall
      let vs : Nat → Value := vsOf ops r'
      have htk : ∀ j o', (ops.take m)[j]? = some o' → ops[j]? = some o' ∧ j < m := fun j o' hj => by
        rw [List.getElem?_take] at hj
        split at hj
        · exact ⟨hj, by assumption⟩
        · cases hj
      have e : Go.Q.fr N r' = Go.Q.fr N (puts vs (ops.take m) 0 r) := by
        refine fr_congr fun t _ => ?_
        by_cases hex : ∃ (i : Nat) (o : Oper), (ops.take m)[i]? = some o ∧ o.dst = some t
        · obtain ⟨i, o, ho, hd⟩ := hex
          rw [puts_new vs (ops.take m) 0 i r o t ho hd (fun j o' hj hne => (flowOk3_spec hok (htk i o ho).1).2 j o' t (htk j o' hj).1 hne hd)]
          simp [vs, vsOf, (htk i o ho).1, slot, hd]
        · rw [puts_old vs (ops.take m) 0 r t (fun o ho hd => by obtain ⟨j, hj⟩ := List.getElem?_of_mem ho; exact hex ⟨j, o, hj, hd⟩)]
          refine hold t (fun i o ho hd => ?_)
          rcases Nat.lt_or_ge i m with g | g
          · exact absurd ⟨i, o, by rw [List.getElem?_take, if_pos g]; exact ho, hd⟩ hex
          · exact hnot i g
      have hw := fin vs hs w (fun i o hi ho => by
        have := hT i o ho
        rw [if_pos (hall i hi)] at this
        have hvs : vs i = slot r' o := by simp only [vs, vsOf, ho]
        rw [hvs]
        rcases this with ⟨_, h⟩ | ⟨hn, h⟩
        · exact h
        · unfold slot; rw [hn]; exact h) (fun i hi hl => by
        have := hT i _ (List.getElem?_eq_getElem hl)
        rw [if_neg (by rw [hnot i hi]; simp)] at this; exact this) hH
      rw [← e] at hw
      have hcount : ops.length - m ≤ (List.range ops.length).countP (fun i => !listed.getD i false) := by
        have : List.range ops.length = List.range m ++ List.range' m (ops.length - m) := by
          have := List.range'_append_1 (s := 0) (m := m) (n := ops.length - m)
          rw [Nat.zero_add] at this
          rw [List.range_eq_range', List.range_eq_range', this]; congr 1; omega
        rw [this, List.countP_append]
        have h2 : (List.range' m (ops.length - m)).countP (fun i => !listed.getD i false) = (List.range' m (ops.length - m)).length := by
          rw [List.countP_eq_length]
          intro i hi
          rw [hnot i (by have := List.mem_range'_1.1 hi; omega)]; rfl
        rw [h2, List.length_range']; omega
      exact hw hok fuel listed hsz hall hnot (by omega)
    intro fuel
    induction fuel with
    | zero =>
      intro listed a w hI hc
      refine fin' 0 listed a w hI hc fun i hi => ?_
      cases hl : listed.getD i false with
      | true => rfl
      | false =>
        have hp : 0 < (List.range ops.length).countP (fun i => !listed.getD i false) := List.countP_pos_iff.2 ⟨i, List.mem_range.2 (by omega), by rw [hl]; rfl⟩
        omega
    | succ fuel ih =>
      intro listed a w hI hc
      by_cases hall : ∀ i, i < m → listed.getD i false = true
      · exact fin' _ listed a w hI hc hall
      refine ⟨fun hr => absurd (fun i hi => ready0 listed hI.1 hr i (by omega)) hall, fun i hi => ?_⟩
      obtain ⟨hsz, hpre, hnot, hcl, r', hs, rfl, hH, hT, hold⟩ := hI
      obtain ⟨h0, o, ho', hdone⟩ := mem_ready.1 hi
      have ho : ops[i]? = some o := by simpa using ho'
      have hlt : i < ops.length := (List.getElem?_eq_some_iff.1 ho).1
      have hli : listed.getD i false = false := by
        have hs : i < listed.size := by omega
        simp [hs] at h0 ⊢; exact h0
      obtain ⟨hdlt, hdist⟩ := flowOk3_spec hok ho
      have hdeps : ∀ d ∈ depsOf ops i, listed.getD d false = true := by
        intro d hd
        unfold depsOf at hd
        rw [ho] at hd
        obtain ⟨e, he, heq⟩ := List.mem_filterMap.1 hd
        split at heq
        · cases heq; exact hdone e (by simpa using he) (by assumption)
        · cases heq
      have him : i < m := by
        rcases Nat.lt_or_ge i m with g | g
        · exact g
        · exact absurd (fun j hj => anc_trans3 hok hcl _ i j (hsq i j g hlt hj) hdeps) hall
      -- the heaplets: the one at i in front
      let G : List (List Hp) := F ++ ((List.range i).map hs ++ (List.range' (i + 1) (ops.length - (i + 1))).map hs)
      have hsplit : List.range ops.length = List.range i ++ i :: List.range' (i + 1) (ops.length - (i + 1)) := by
        rw [List.range_eq_range', List.range_eq_range', show i :: List.range' (i + 1) (ops.length - (i + 1)) = List.range' i (ops.length - i) from by
          rw [show ops.length - i = (ops.length - (i + 1)) + 1 by omega, List.range'_succ]]
        have := List.range'_append_1 (s := 0) (m := i) (n := ops.length - i)
        rw [Nat.zero_add] at this
        rw [this]; congr 1; omega
      have mapsplit : ∀ f : Nat → List Hp, (List.range ops.length).map f = (List.range i).map f ++ f i :: (List.range' (i + 1) (ops.length - (i + 1))).map f := by
        intro f; rw [hsplit]; simp
      have hperm : ∀ f : Nat → List Hp, (F ++ (List.range ops.length).map f).Perm (f i :: (F ++ ((List.range i).map f ++ (List.range' (i + 1) (ops.length - (i + 1))).map f))) := by
        intro f
        rw [mapsplit f, ← List.append_assoc, ← List.append_assoc]
        exact List.perm_middle
      have hhi : hs i = C i := by have := hT i o ho; rw [if_neg (by rw [hli]; simp)] at this; exact this
      have inG : ∀ j, j < ops.length → j ≠ i → hs j ∈ G := by
        intro j hj hne
        refine List.mem_append_right _ ?_
        rcases Nat.lt_or_gt_of_ne hne with h | h
        · exact List.mem_append_left _ (List.mem_map.2 ⟨j, List.mem_range.2 h, rfl⟩)
        · exact List.mem_append_right _ (List.mem_map.2 ⟨j, by rw [List.mem_range'_1]; omega, rfl⟩)
      have subG : ∀ s ∈ G, s ⊆ G.flatten := fun s hs' x hx => List.mem_flatten.2 ⟨s, hs', hx⟩
      have ancNe : ∀ j, listed.getD j false = true → j ≠ i := fun j hj e => by rw [e, hli] at hj; cases hj
      have turn : Turn3 E ops F C Tp N r i r' w G hs := by
        refine ⟨?_, fun s hs' => subG s (List.mem_append_left _ hs'), fun j oj hoj hanc => ?_, fun j hanc => ?_, fun t ht => ?_, fun j oj hoj hne => ?_⟩
        · rw [← hhi]; exact hH.perm (hperm hs).symm
        · have hl := anc_trans3 hok hcl _ i j hanc hdeps
          refine ⟨?_, subG _ (inG j (List.getElem?_eq_some_iff.1 hoj).1 (ancNe j hl))⟩
          have := hT j oj hoj
          rw [if_pos hl] at this
          rcases this with ⟨_, h⟩ | ⟨hn, h⟩
          · exact h
          · unfold slot; rw [hn]; exact h
        · cases hj : ops[j]? with
          | none =>
            exfalso
            unfold anc at hanc
            split at hanc
            · cases hanc
            · simp [depsOf, hj] at hanc
          | some oj =>
            have hnl : listed.getD j false = false := by
              cases hl : listed.getD j false with
              | false => rfl
              | true =>
                have := anc_trans3 hok hcl _ j i hanc (hcl j hl)
                rw [hli] at this; cases this
            have hjl := (List.getElem?_eq_some_iff.1 hj).1
            have hne : j ≠ i := by
              rintro rfl
              have := anc_trans3 hok hcl _ j j hanc hdeps
              rw [hli] at this; cases this
            have := hT j oj hj
            rw [if_neg (by rw [hnl]; simp)] at this
            rw [← this]; exact subG _ (inG j hjl hne)
        · refine hold t (fun j oj hoj hd => ?_)
          rcases ht j oj hoj hd with rfl | hanc
          · exact hli
          · cases hl : listed.getD j false with
            | false => rfl
            | true =>
              have := anc_trans3 hok hcl _ j i hanc (hcl j hl)
              rw [hli] at this; cases this
        · have hG := subG _ (inG j (List.getElem?_eq_some_iff.1 hoj).1 hne)
          have := hT j oj hoj
          cases hl : listed.getD j false with
          | true =>
            rw [if_pos hl] at this
            rcases this with ⟨_, h⟩ | ⟨_, h⟩
            · exact .inr ⟨⟨_, _, h⟩, hG⟩
            · exact .inr ⟨⟨_, _, h⟩, hG⟩
          | false =>
            rw [if_neg (by rw [hl]; simp)] at this
            rw [← this]; exact .inl hG
      have hi0 : m0 ≤ i := by
        rcases Nat.lt_or_ge i m0 with g | g
        · rw [hpre i g] at hli; cases hli
        · exact g
      have hstep := step i o hi0 him ho r' w G hs turn
      have hnext : ∀ (v : Value) (w'' : World), (∃ h', Tp i (match o.dst with | some _ => v | none => undef) h' (msk ops i (vsOf ops r')) ∧ Has E w'' (h' :: G)) →
          wpAny P .any ops.toArray Q fuel (listed.setIfInBounds i true) ((Go.Q.fr N r').put o.dst v) w'' := ?_
      · exact GOK.wp ho' hstep hnext
      rintro v w'' ⟨h', hTi, hH'⟩
      refine ih _ _ _ ⟨by simpa using hsz, fun j hj => by rw [getD_set_ne false (show i ≠ j by omega)]; exact hpre j hj, fun j hj => by rw [getD_set_ne false (show i ≠ j by omega)]; exact hnot j hj, ?_, ?_⟩ ?_
      · intro j hj d hd
        by_cases hji : i = j
        · subst hji; exact getD_set_true (hdeps d hd)
        · rw [getD_set_ne false hji] at hj
          exact getD_set_true (hcl j hj d hd)
      · let hs' : Nat → List Hp := fun j => if j = i then h' else hs j
        have hsG : F ++ ((List.range i).map hs' ++ (List.range' (i + 1) (ops.length - (i + 1))).map hs') = G := by
          have e1 : (List.range i).map hs' = (List.range i).map hs := List.map_congr_left fun j hj => by
            have := List.mem_range.1 hj; simp only [hs']; rw [if_neg (by omega)]
          have e2 : (List.range' (i + 1) (ops.length - (i + 1))).map hs' = (List.range' (i + 1) (ops.length - (i + 1))).map hs := List.map_congr_left fun j hj => by
            have := List.mem_range'_1.1 hj; simp only [hs']; rw [if_neg (by omega)]
          rw [e1, e2]
        have hH2 : Has E w'' (F ++ (List.range ops.length).map hs') := by
          refine hH'.perm ((hperm hs').trans ?_)
          rw [hsG]
          simp [hs']
        have hset : ∀ j, j ≠ i → (listed.setIfInBounds i true).getD j false = listed.getD j false := fun j hj => getD_set_ne false (Ne.symm hj)
        have hseti : (listed.setIfInBounds i true).getD i false = true := by
          have : i < listed.size := by omega
          simp [this]
        cases hd : o.dst with
        | none =>
          refine ⟨r', hs', by rw [fr_put_none], hH2, fun j oj hoj => ?_, fun t ht => hold t fun j oj hoj hdj => ?_⟩
          · by_cases hji : j = i
            · subst hji
              rw [ho] at hoj; cases hoj
              rw [if_pos hseti]
              rw [hd] at hTi
              exact .inr ⟨hd, by simpa [hs'] using hTi⟩
            · rw [hset j hji]
              have := hT j oj hoj
              simpa [hs', hji] using this
          · by_cases hji : j = i
            · subst hji; exact hli
            · have := ht j oj hoj hdj; rwa [hset j hji] at this
        | some d =>
          refine ⟨upd r' d v, hs', by rw [fr_put], hH2, fun j oj hoj => ?_, fun t ht => ?_⟩
          · by_cases hji : j = i
            · subst hji
              rw [ho] at hoj; cases hoj
              rw [if_pos hseti]
              refine .inl ⟨by rw [hd]; rfl, ?_⟩
              rw [hd] at hTi
              rw [msk_upd3 hok ho hd (fun k hk => ancNe k (anc_trans3 hok hcl _ j k hk hdeps))]
              simp only [slot, hd, upd_same, hs', if_true]; exact hTi
            · rw [hset j hji]
              have := hT j oj hoj
              have hne : oj.dst ≠ some d := hdist j oj d hoj hji hd
              have hsl : slot (upd r' d v) oj = slot r' oj := by
                unfold slot
                cases hdj : oj.dst with
                | none => rfl
                | some t => exact upd_ne _ _ (fun e => hne (by rw [hdj, e]))
              cases hlj : listed.getD j false with
              | true =>
                rw [msk_upd3 hok ho hd (fun k hk => ancNe k (anc_trans3 hok hcl _ j k hk (hcl j hlj)))]
                simpa [hs', hji, hsl, hlj] using this
              | false => simpa [hs', hji, hlj] using this
          · have hne : t ≠ d := by
              rintro rfl
              have := ht i o ho hd
              rw [hseti] at this; cases this
            rw [upd_ne _ _ hne]
            refine hold t fun j oj hoj hdj => ?_
            by_cases hji : j = i
            · subst hji; exact hli
            · have := ht j oj hoj hdj; rwa [hset j hji] at this
      · have : (List.range ops.length).countP (fun j => !(listed.setIfInBounds i true).getD j false) < (List.range ops.length).countP (fun j => !listed.getD j false) := by
          have hset : ∀ j, j ≠ i → (listed.setIfInBounds i true).getD j false = listed.getD j false := fun j hj => getD_set_ne false (Ne.symm hj)
          have hseti : (listed.setIfInBounds i true).getD i false = true := by
            have : i < listed.size := by omega
            simp [this]
          rw [hsplit, List.countP_append, List.countP_cons, List.countP_append, List.countP_cons, hseti, hli]
          have e1 : (List.range i).countP (fun j => !(listed.setIfInBounds i true).getD j false) = (List.range i).countP (fun j => !listed.getD j false) :=
            List.countP_congr fun j hj => by have := List.mem_range.1 hj; rw [hset j (by omega)]
          have e2 : (List.range' (i + 1) (ops.length - (i + 1))).countP (fun j => !(listed.setIfInBounds i true).getD j false) = (List.range' (i + 1) (ops.length - (i + 1))).countP (fun j => !listed.getD j false) :=
            List.countP_congr fun j hj => by have := List.mem_range'_1.1 hj; rw [hset j (by omega)]
          rw [e1, e2]; simp
        omega
  have h0 : Inv listed0 (Go.Q.fr N r) w := by
    refine ⟨hsz0, hall0, fun i hi => hnot0 i (by omega), fun i hi d hd => ?_, r, C, rfl, H, fun i o ho => ?_, fun _ _ => rfl⟩
    · have hi0 : i < m0 := by
        rcases Nat.lt_or_ge i m0 with g | g
        · exact g
        · rw [hnot0 i g] at hi; cases hi
      have := (flowOk3_spec hok (List.getElem?_eq_getElem (show i < ops.length by omega))).1 d hd
      exact hall0 d (by omega)
    · rcases Nat.lt_or_ge i m0 with g | g
      · rw [if_pos (hall0 i g)]
        have hd := done0 i o g ho
        cases hdd : o.dst with
        | none => exact .inr ⟨rfl, by unfold slot at hd; rw [hdd] at hd; exact hd⟩
        | some t => exact .inl ⟨rfl, hd⟩
      · rw [if_neg (by rw [hnot0 i g]; simp)]
  refine key _ _ _ _ h0 ?_
  have e0 : List.range ops.length = List.range m0 ++ List.range' m0 (ops.length - m0) := by
    have := List.range'_append_1 (s := 0) (m := m0) (n := ops.length - m0)
    rw [Nat.zero_add] at this
    rw [List.range_eq_range', List.range_eq_range', this]; congr 1; omega
  rw [e0, List.countP_append]
  have e1 : (List.range m0).countP (fun i => !listed0.getD i false) = 0 := by
    rw [List.countP_eq_zero]
    intro i hi
    rw [hall0 i (List.mem_range.1 hi)]; simp
  have e2 : (List.range' m0 (ops.length - m0)).countP (fun i => !listed0.getD i false) ≤ ops.length - m0 := Nat.le_trans List.countP_le_length (by rw [List.length_range']; exact Nat.le_refl _)
  omega
end Go.Q
namespace Go.Q
section
variable {P : Program} {ops : List Oper} {Q : Exit → Act → World → Prop}
/-- One operation, wanted or not. -/
def okOp (P : Program) (ops : List Oper) (i : Nat) (K : Act → World → Prop) (a : Act) (w : World) : Prop :=
  ∃ o, ops[i]? = some o ∧ ((Region.wanted o (yielded ops.toArray a.tmps) = true ∧ OK P o a.eval w fun v w' => K (a.put o.dst v) w') ∨ (Region.wanted o (yielded ops.toArray a.tmps) = false ∧ K (a.put o.dst undef) w))
theorem okOp.mono {i : Nat} {K K' : Act → World → Prop} {a : Act} {w : World} (h : okOp P ops i K a w) (hk : ∀ a w, K a w → K' a w) : okOp P ops i K' a w := by
  obtain ⟨o, ho, ⟨h1, h2⟩ | ⟨h1, h2⟩⟩ := h
  · exact ⟨o, ho, .inl ⟨h1, h2.mono fun v w' => hk _ _⟩⟩
  · exact ⟨o, ho, .inr ⟨h1, hk _ _ h2⟩⟩
theorem okOp.wp {i : Nat} {K : Act → World → Prop} {a : Act} {w : World} (h : okOp P ops i K a w) : wpOp P ops.toArray Q i K a w := by
  obtain ⟨o, ho, h⟩ := h
  unfold wpOp
  rw [show ops.toArray[i]? = some o by simpa using ho]
  rcases h with ⟨h1, h2⟩ | ⟨h1, h2⟩
  · simp only [h1, if_true]; exact .inl h2.wp
  · simp only [h1, Bool.false_eq_true, if_false]; exact h2
def allB (hi : Nat) (l : Array Bool) : Bool := (List.range hi).all fun i => l.getD i false
/-- All orders of the phase that ends ahead of hi, n operations are left; I holds all the way. -/
def anyI (P : Program) (ops : List Oper) (hi : Nat) (K : Act → World → Prop) (I : World → Prop) : Nat → Array Bool → Act → World → Prop
  | 0, l, a, w => I w ∧ allB hi l = true ∧ K a w
  | n + 1, l, a, w => I w ∧ allB hi l = false ∧ ∀ i ∈ Region.ready .any ops.toArray l, i < hi → okOp P ops i (anyI P ops hi K I n (l.setIfInBounds i true)) a w
theorem anyI.inv {hi : Nat} {K : Act → World → Prop} {I : World → Prop} : ∀ {n : Nat} {l : Array Bool} {a : Act} {w : World}, anyI P ops hi K I n l a w → I w
  | 0, _, _, _, h => h.1
  | _ + 1, _, _, _, h => h.1
/-- It gives this value wherever I holds, and changes nothing. -/
def YI (P : Program) (ops : List Oper) (o : Oper) (v : Value) (a : Act) (I : World → Prop) : Prop :=
  (Region.wanted o (yielded ops.toArray a.tmps) = true ∧ ∀ w, I w → OK P o a.eval w fun v' w' => v' = v ∧ w' = w) ∨ (Region.wanted o (yielded ops.toArray a.tmps) = false ∧ v = undef)
theorem OK.congr {o : Oper} {ρ ρ' : Operand → Value} {w : World} {K : Value → World → Prop} (h : execOp ρ' o = execOp ρ o) (k : OK P o ρ w K) : OK P o ρ' w K := by
  unfold OK at *; rw [h]; exact k
theorem YI.same {o : Oper} {v : Value} {a a' : Act} {I : World → Prop} (h : YI P ops o v a I) (he : execOp a'.eval o = execOp a.eval o) (hw : Region.wanted o (yielded ops.toArray a'.tmps) = Region.wanted o (yielded ops.toArray a.tmps)) : YI P ops o v a' I := by
  unfold YI at *
  rw [hw]
  exact h.imp (fun g => ⟨g.1, fun w hI => (g.2 w hI).congr he⟩) id
theorem YI.ok {i : Nat} {o : Oper} {v : Value} {a : Act} {I : World → Prop} {K : Act → World → Prop} {w : World} (hi : ops[i]? = some o) (h : YI P ops o v a I) (hI : I w) (hk : K (a.put o.dst v) w) : okOp P ops i K a w := by
  refine ⟨o, hi, ?_⟩
  rcases h with ⟨h1, h2⟩ | ⟨h1, rfl⟩
  · exact .inl ⟨h1, (h2 w hI).mono fun v' w' ⟨e1, e2⟩ => by rw [e1, e2]; exact hk⟩
  · exact .inr ⟨h1, hk⟩
theorem okOp_put {j : Nat} {oi oj : Oper} {v : Value} {I : World → Prop} (hj : ops[j]? = some oj) (hap : oi.apart ops.toArray oj = true) (hsi : ∀ cs b, oi.op ≠ .select cs b) (hsj : ∀ cs b, oj.op ≠ .select cs b)
    {K : Act → World → Prop} {a : Act} {w : World} (hy : YI P ops oi v a I) (h : okOp P ops j K (a.put oi.dst v) w) : okOp P ops j (fun a' w' => YI P ops oi v a' I ∧ K (a'.put oi.dst v) w') a w := by
  obtain ⟨h1, h2, h3⟩ := Oper.apart_spec hap
  have keep : ∀ u, YI P ops oi v (a.put oj.dst u) I := fun u => hy.same (execOp_put oi hsi a oj.dst u h3) (wanted_put oi a oj.dst u h3)
  obtain ⟨o, ho, h⟩ := h
  obtain rfl : o = oj := Option.some.inj (ho.symm.trans hj)
  refine ⟨o, ho, ?_⟩
  rw [wanted_put o a oi.dst v h1] at h
  rcases h with ⟨g1, g2⟩ | ⟨g1, g2⟩
  · refine .inl ⟨g1, OK.congr (execOp_put o hsj a oi.dst v h1).symm (g2.mono fun u w' hk => ⟨keep u, ?_⟩)⟩
    rw [← Act.put_comm a v u h2]; exact hk
  · refine .inr ⟨g1, keep _, ?_⟩
    rw [← Act.put_comm a v undef h2]; exact g2
theorem ready_un {i : Nat} {l : Array Bool} (h : i ∈ Region.ready .any ops.toArray l) : l.getD i false = false ∧ i < l.size := by
  have h0 := (mem_ready.1 h).1
  rcases Nat.lt_or_ge i l.size with g | g
  · refine ⟨?_, g⟩
    simp [g] at h0 ⊢; exact h0
  · simp [Array.getElem?_eq_none g] at h0
theorem allB_un {hi i : Nat} {l : Array Bool} (h : l.getD i false = false) (hlt : i < hi) : allB hi l = false := by
  cases e : allB hi l with
  | false => rfl
  | true =>
    unfold allB at e
    rw [List.all_eq_true] at e
    have := e i (List.mem_range.2 hlt)
    rw [h] at this; cases this
theorem anyI_first {hi i : Nat} {oi : Oper} {v : Value} {K : Act → World → Prop} {I : World → Prop} (hoi : ops[i]? = some oi) (hlt : i < hi) (hsel : ∀ (j : Nat) (o : Oper) cs b, ops[j]? = some o → o.op ≠ .select cs b) :
    ∀ (n : Nat) (l : Array Bool) (a : Act) (w : World),
      (∀ j oj, ops[j]? = some oj → j ≠ i → l.getD j true = false → (∀ e ∈ oj.after, Region.binds .any e = true → e.on ≠ i) → oi.apart ops.toArray oj = true) →
      i ∈ Region.ready .any ops.toArray l → YI P ops oi v a I → anyI P ops hi K I n (l.setIfInBounds i true) (a.put oi.dst v) w → anyI P ops hi K I (n + 1) l a w := by
  intro n
  induction n with
  | zero =>
    intro l a w _ hr hy H
    have hu := ready_un hr
    refine ⟨H.inv, allB_un hu.1 hlt, fun j hj hjh => ?_⟩
    by_cases hji : j = i
    · subst hji; exact hy.ok hoi H.inv H
    · have h2 := ready_un (ready_mono hj hji)
      have := allB_un h2.1 hjh
      rw [H.2.1] at this; cases this
  | succ n ih =>
    intro l a w hfree hr hy H
    have hu := ready_un hr
    refine ⟨H.inv, allB_un hu.1 hlt, fun j hj hjh => ?_⟩
    by_cases hji : j = i
    · subst hji; exact hy.ok hoi H.inv H
    · have h1 := H.2.2 j (ready_mono hj hji) hjh
      obtain ⟨hjun, oj, hoj, hall⟩ := mem_ready.1 hj
      have hoj' : ops[j]? = some oj := by simpa using hoj
      have hnot : ∀ e ∈ oj.after, Region.binds .any e = true → e.on ≠ i := fun e he hb heq => by
        have h1 := hall e he hb
        rw [heq, hu.1] at h1; cases h1
      have h2 := okOp_put hoj' (hfree j oj hoj' hji hjun hnot) (fun cs b => hsel i oi cs b hoi) (fun cs b => hsel j oj cs b hoj') hy h1
      have hfree' : ∀ k ok, ops[k]? = some ok → k ≠ i → (l.setIfInBounds j true).getD k true = false → (∀ e ∈ ok.after, Region.binds .any e = true → e.on ≠ i) → oi.apart ops.toArray ok = true := fun k ok hk hki hun hno => by
        refine hfree k ok hk hki ?_ hno
        by_cases hjk : j = k
        · subst hjk; exact hjun
        · rw [getD_set_ne true hjk] at hun; exact hun
      refine h2.mono fun a' w' h3 => ih (l.setIfInBounds j true) a' w' hfree' (ready_mono hr (Ne.symm hji)) h3.1 ?_
      rw [Array.setIfInBounds_comm _ _ hji]
      exact h3.2
theorem anyI_wp {hi : Nat} {I : World → Prop} (hok : flowOk3 ops = true) (hbar : barB ops hi = true) (hhi : hi ≤ ops.length) : ∀ (n fuel : Nat) (l : Array Bool) (a : Act) (w : World), l.size = ops.length → (∀ i, hi ≤ i → l.getD i false = false) →
    (∀ i, l.getD i false = true → ∀ d ∈ depsOf ops i, l.getD d false = true) → n + (ops.length - hi) ≤ fuel → anyI P ops hi (Rest P Q ops hi) I n l a w → wpAny P .any ops.toArray Q fuel l a w
  | 0, fuel, l, a, w, hsz, hnot, _, hf, h => by
    refine h.2.2 hok fuel l hsz (fun i hi' => ?_) hnot (by omega)
    have := h.2.1
    unfold allB at this
    rw [List.all_eq_true] at this
    exact this i (List.mem_range.2 hi')
  | n + 1, fuel, l, a, w, hsz, hnot, hcl, hf, h => by
    obtain ⟨f, rfl⟩ : ∃ f, fuel = f + 1 := ⟨fuel - 1, by omega⟩
    obtain ⟨_, hall, hr⟩ := h
    obtain ⟨m, hm, hum, hmin⟩ : ∃ m, m < hi ∧ l.getD m false = false ∧ ∀ j, j < m → l.getD j false = true := by
      unfold allB at hall
      rw [List.all_eq_false] at hall
      obtain ⟨x, hx, hxu⟩ := hall
      have hx' : x < hi := List.mem_range.1 hx
      have hxu' : l.getD x false = false := by simpa using hxu
      clear hxu hx
      induction x using Nat.strongRecOn with
      | ind x ih =>
        by_cases g : ∃ j, j < x ∧ l.getD j false = false
        · obtain ⟨j, hj, hju⟩ := g; exact ih j hj (by omega) hju
        · exact ⟨x, hx', hxu', fun j hj => by
            cases e : l.getD j false with
            | true => rfl
            | false => exact absurd ⟨j, hj, e⟩ g⟩
    have hml : m < ops.length := by omega
    have hmr : m ∈ Region.ready .any ops.toArray l := by
      refine mem_ready.2 ⟨?_, ops[m], by simp [hml], fun e he hb => ?_⟩
      · have hs : m < l.size := by omega
        simp [hs] at hum ⊢; exact hum
      · have hd := mem_depsOf (List.getElem?_eq_getElem hml) he hb
        exact hmin _ ((flowOk3_spec hok (List.getElem?_eq_getElem hml)).1 _ hd)
    refine ⟨fun g => (by rw [g] at hmr; cases hmr), fun i hi' => ?_⟩
    obtain ⟨hiu, his⟩ := ready_un hi'
    obtain ⟨_, o, ho, hdone⟩ := mem_ready.1 hi'
    have ho' : ops[i]? = some o := by simpa using ho
    have hdeps : ∀ d ∈ depsOf ops i, l.getD d false = true := by
      intro d hd
      unfold depsOf at hd
      rw [ho'] at hd
      obtain ⟨e, he, heq⟩ := List.mem_filterMap.1 hd
      split at heq
      · cases heq; exact hdone e (by simpa using he) (by assumption)
      · cases heq
    have hih : i < hi := by
      rcases Nat.lt_or_ge i hi with g | g
      · exact g
      · have := anc_trans3 hok hcl _ i m (barB_spec hbar i m g (by omega) hm) hdeps
        rw [hum] at this; cases this
    refine wpOp_mono ?_ (hr i hi' hih).wp
    intro a' w' h'
    refine anyI_wp hok hbar hhi n f _ a' w' (by simpa using hsz) (fun j hj => ?_) (fun j hj d hd => ?_) (by omega) h'
    · rw [getD_set_ne false (show i ≠ j by omega)]; exact hnot j hj
    · by_cases e : i = j
      · subst e; exact getD_set_true (hdeps d hd)
      · rw [getD_set_ne false e] at hj; exact getD_set_true (hcl j hj d hd)
def prefB (lo n : Nat) : Array Bool := (List.replicate lo true ++ List.replicate (n - lo) false).toArray
def freeB (ops : List Oper) (hi : Nat) (l : Array Bool) (k : Nat) : Bool := Region.noSelect ops.toArray && Region.free .any ops.toArray l k && (Region.ready .any ops.toArray l).contains k && decide (k < hi)
def onlyB (ops : List Oper) (hi : Nat) (l : Array Bool) (k : Nat) : Bool := (Region.ready .any ops.toArray l).all (fun i => i == k || decide (hi ≤ i)) && (Region.ready .any ops.toArray l).contains k && decide (k < hi)
theorem Rest.phaseA {N : Nat} {r : Nat → Value} {w : World} (I : World → Prop) (lo hi m : Nat) (hm : lo + m = hi) (hhi : decide (hi ≤ ops.length) = true) (hbar : barB ops hi = true)
    (h : anyI P ops hi (Rest P Q ops hi) I m (prefB lo ops.length) (Go.Q.fr N r) w) : Rest P Q ops lo (Go.Q.fr N r) w := by
  intro hok fuel listed hsz hall hnot hf
  have hhi := of_decide_eq_true hhi
  have e : listed = prefB lo ops.length := by
    unfold prefB
    apply Array.ext
    · simp [hsz]; omega
    · intro i h1 h2
      rcases Nat.lt_or_ge i lo with g | g
      · have := hall i g
        simp [h1] at this
        rw [this]; simp [List.getElem_append, g]
      · have := hnot i g
        simp [h1] at this
        rw [this]; simp [List.getElem_append, Nat.not_lt.2 g]
  subst e
  refine anyI_wp hok hbar hhi m fuel _ _ w hsz (fun i hi' => hnot i (by omega)) (fun i hi' d hd => ?_) (by omega) h
  have hil : i < lo := by
    rcases Nat.lt_or_ge i lo with g | g
    · exact g
    · rw [hnot i g] at hi'; cases hi'
  have := (flowOk3_spec hok (List.getElem?_eq_getElem (show i < ops.length by omega))).1 d hd
  exact hall d (by omega)
section
variable {hi : Nat} {K : Act → World → Prop} {I : World → Prop} {N n : Nat} {l : Array Bool} {r : Nat → Value} {w : World}
theorem a_done {a : Act} (h : allB hi l = true) (hI : I w) (hk : K a w) : anyI P ops hi K I 0 l a w := ⟨hI, h, hk⟩
theorem freeB_spec {k : Nat} (h : freeB ops hi l k = true) : Region.noSelect ops.toArray = true ∧ Region.free .any ops.toArray l k = true ∧ k ∈ Region.ready .any ops.toArray l ∧ k < hi := by
  unfold freeB at h
  simp only [Bool.and_eq_true, decide_eq_true_eq, List.contains_iff_mem] at h
  exact ⟨h.1.1.1, h.1.1.2, h.1.2, h.2⟩
theorem onlyB_spec {k : Nat} (h : onlyB ops hi l k = true) : (∀ i ∈ Region.ready .any ops.toArray l, i < hi → i = k) ∧ k ∈ Region.ready .any ops.toArray l ∧ k < hi := by
  unfold onlyB at h
  simp only [Bool.and_eq_true, decide_eq_true_eq, List.contains_iff_mem, List.all_eq_true, Bool.or_eq_true, beq_iff_eq] at h
  exact ⟨fun i hi' hlt => (h.1.1 i hi').elim id fun g => by omega, h.1.2, h.2⟩
theorem a_first {k : Nat} {o : Oper} {v : Value} {a : Act} (ho : ops[k]? = some o) (hf : freeB ops hi l k = true) (hy : YI P ops o v a I) (h : anyI P ops hi K I n (l.setIfInBounds k true) (a.put o.dst v) w) : anyI P ops hi K I (n + 1) l a w := by
  obtain ⟨h1, h2, h3, h4⟩ := freeB_spec hf
  have ho' : ops.toArray[k]? = some o := by simpa using ho
  exact anyI_first ho h4 (fun j o cs b hj => Region.noSelect_spec h1 j o cs b (by simpa using hj)) n l a w (fun j oj hj => Region.free_spec ho' h2 j oj (by simpa using hj)) h3 hy h
theorem a_op {d : Nat} {op : Op} {T : TypeId} {pos : String} {after : Array Edge} {v : Value} (k : Nat) (ho : ops[k]? = some ⟨some d, op, T, pos, after, none⟩) (hf : freeB ops hi l k = true)
    (hv : ∀ w', I w' → OK P ⟨some d, op, T, pos, after, none⟩ (ev N r) w' fun v' w'' => v' = v ∧ w'' = w') (h : anyI P ops hi K I n (l.setIfInBounds k true) (Go.Q.fr N (upd r d v)) w) : anyI P ops hi K I (n + 1) l (Go.Q.fr N r) w := by
  refine a_first ho hf (.inl ⟨by simp [Region.wanted], fun w' hI => ?_⟩) (v := v) (by rw [fr_put]; exact h)
  rw [fr_eval]; exact hv w' hI
theorem a_on {d : Nat} {op : Op} {T : TypeId} {pos : String} {after : Array Edge} {g : Nat} {b : Bool} {v : Value} (k : Nat) (ho : ops[k]? = some ⟨some d, op, T, pos, after, some (g, b)⟩) (hf : freeB ops hi l k = true) (t : Nat) (hgt : dstOf ops g = some t) (hg : ev N r (.tmp t) = .bool b)
    (hv : ∀ w', I w' → OK P ⟨some d, op, T, pos, after, some (g, b)⟩ (ev N r) w' fun v' w'' => v' = v ∧ w'' = w') (h : anyI P ops hi K I n (l.setIfInBounds k true) (Go.Q.fr N (upd r d v)) w) : anyI P ops hi K I (n + 1) l (Go.Q.fr N r) w := by
  refine a_first ho hf (.inl ⟨?_, fun w' hI => ?_⟩) (v := v) (by rw [fr_put]; exact h)
  · obtain ⟨og, h1, h2⟩ := dstOf_spec ops g hgt
    rw [wanted_fr h1 h2 hg]; simp
  · rw [fr_eval]; exact hv w' hI
theorem a_off {d : Nat} {op : Op} {T : TypeId} {pos : String} {after : Array Edge} {g : Nat} {b b' : Bool} (k : Nat) (ho : ops[k]? = some ⟨some d, op, T, pos, after, some (g, b)⟩) (hf : freeB ops hi l k = true) (t : Nat) (hgt : dstOf ops g = some t) (hg : ev N r (.tmp t) = .bool b') (hne : (b' == b) = false)
    (h : anyI P ops hi K I n (l.setIfInBounds k true) (Go.Q.fr N (upd r d undef)) w) : anyI P ops hi K I (n + 1) l (Go.Q.fr N r) w := by
  refine a_first ho hf (.inr ⟨?_, rfl⟩) (by rw [fr_put]; exact h)
  obtain ⟨og, h1, h2⟩ := dstOf_spec ops g hgt
  rw [wanted_fr h1 h2 hg, hne]
theorem a_offu {d : Nat} {op : Op} {T : TypeId} {pos : String} {after : Array Edge} {g : Nat} {b : Bool} (k : Nat) (ho : ops[k]? = some ⟨some d, op, T, pos, after, some (g, b)⟩) (hf : freeB ops hi l k = true) (t : Nat) (hgt : dstOf ops g = some t) (hg : ev N r (.tmp t) = undef)
    (h : anyI P ops hi K I n (l.setIfInBounds k true) (Go.Q.fr N (upd r d undef)) w) : anyI P ops hi K I (n + 1) l (Go.Q.fr N r) w := by
  refine a_first ho hf (.inr ⟨?_, rfl⟩) (by rw [fr_put]; exact h)
  obtain ⟨og, h1, h2⟩ := dstOf_spec ops g hgt
  have hy : yielded ops.toArray (Go.Q.fr N r).tmps g = none := by
    simp only [yielded, show ops.toArray[g]? = some og by simpa using h1, h2, Option.bind_some, fr_at]
    by_cases h : t < N
    · have hb : Nat.blt t N = true := by simpa using h
      simp only [ev, hb] at hg
      have hv' : r t = undef := hg
      rw [if_pos h, hv']; rfl
    · rw [if_neg h]
  simp [Region.wanted, hy]
theorem a_only {k : Nat} {o : Oper} {a : Act} (ho : ops[k]? = some o) (hr : onlyB ops hi l k = true) (hI : I w) (h : okOp P ops k (anyI P ops hi K I n (l.setIfInBounds k true)) a w) : anyI P ops hi K I (n + 1) l a w := by
  obtain ⟨h1, h2, h3⟩ := onlyB_spec hr
  exact ⟨hI, allB_un (ready_un h2).1 h3, fun i hi' hlt => by rw [h1 i hi' hlt]; exact h⟩
theorem a_w {d : Nat} {op : Op} {T : TypeId} {pos : String} {after : Array Edge} (k : Nat) (ho : ops[k]? = some ⟨some d, op, T, pos, after, none⟩) (hr : onlyB ops hi l k = true) (hI : I w)
    (h : OK P ⟨some d, op, T, pos, after, none⟩ (ev N r) w fun v w' => anyI P ops hi K I n (l.setIfInBounds k true) (Go.Q.fr N (upd r d v)) w') : anyI P ops hi K I (n + 1) l (Go.Q.fr N r) w := by
  refine a_only ho hr hI ⟨_, ho, .inl ⟨by simp [Region.wanted], ?_⟩⟩
  rw [fr_eval]; exact h.mono fun v w' hh => by rw [fr_put]; exact hh
theorem a_we {op : Op} {T : TypeId} {pos : String} {after : Array Edge} (k : Nat) (ho : ops[k]? = some ⟨none, op, T, pos, after, none⟩) (hr : onlyB ops hi l k = true) (hI : I w)
    (h : OK P ⟨none, op, T, pos, after, none⟩ (ev N r) w fun _ w' => anyI P ops hi K I n (l.setIfInBounds k true) (Go.Q.fr N r) w') : anyI P ops hi K I (n + 1) l (Go.Q.fr N r) w := by
  refine a_only ho hr hI ⟨_, ho, .inl ⟨by simp [Region.wanted], ?_⟩⟩
  rw [fr_eval]; exact h
theorem a_won {d : Nat} {op : Op} {T : TypeId} {pos : String} {after : Array Edge} {g : Nat} {b : Bool} (k : Nat) (ho : ops[k]? = some ⟨some d, op, T, pos, after, some (g, b)⟩) (hr : onlyB ops hi l k = true) (hI : I w) (t : Nat) (hgt : dstOf ops g = some t) (hg : ev N r (.tmp t) = .bool b)
    (h : OK P ⟨some d, op, T, pos, after, some (g, b)⟩ (ev N r) w fun v w' => anyI P ops hi K I n (l.setIfInBounds k true) (Go.Q.fr N (upd r d v)) w') : anyI P ops hi K I (n + 1) l (Go.Q.fr N r) w := by
  refine a_only ho hr hI ⟨_, ho, .inl ⟨?_, ?_⟩⟩
  · obtain ⟨og, h1, h2⟩ := dstOf_spec ops g hgt
    rw [wanted_fr h1 h2 hg]; simp
  · rw [fr_eval]; exact h.mono fun v w' hh => by rw [fr_put]; exact hh
def twoB (ops : List Oper) (hi : Nat) (l : Array Bool) (k k2 : Nat) : Bool := (Region.ready .any ops.toArray l).all (fun i => i == k || i == k2 || decide (hi ≤ i)) && (Region.ready .any ops.toArray l).contains k && decide (k < hi)
/-- Two that change the world are ready: whichever comes first. -/
theorem a_two {a : Act} (k k2 : Nat) (hr : twoB ops hi l k k2 = true) (hI : I w) (h1 : okOp P ops k (anyI P ops hi K I n (l.setIfInBounds k true)) a w) (h2 : okOp P ops k2 (anyI P ops hi K I n (l.setIfInBounds k2 true)) a w) : anyI P ops hi K I (n + 1) l a w := by
  unfold twoB at hr
  simp only [Bool.and_eq_true, decide_eq_true_eq, List.contains_iff_mem, List.all_eq_true, Bool.or_eq_true, beq_iff_eq] at hr
  refine ⟨hI, allB_un (ready_un hr.1.2).1 hr.2, fun i hi' hlt => ?_⟩
  rcases hr.1.1 i hi' with (e | e) | e
  · rw [e]; exact h1
  · rw [e]; exact h2
  · omega
theorem ok_w {K : Act → World → Prop} {d : Nat} {op : Op} {T : TypeId} {pos : String} {after : Array Edge} (k : Nat) (ho : ops[k]? = some ⟨some d, op, T, pos, after, none⟩)
    (h : OK P ⟨some d, op, T, pos, after, none⟩ (ev N r) w fun v w' => K (Go.Q.fr N (upd r d v)) w') : okOp P ops k K (Go.Q.fr N r) w := by
  refine ⟨_, ho, .inl ⟨by simp [Region.wanted], ?_⟩⟩
  rw [fr_eval]; exact h.mono fun v w' hh => by rw [fr_put]; exact hh
theorem ok_we {K : Act → World → Prop} {op : Op} {T : TypeId} {pos : String} {after : Array Edge} (k : Nat) (ho : ops[k]? = some ⟨none, op, T, pos, after, none⟩)
    (h : OK P ⟨none, op, T, pos, after, none⟩ (ev N r) w fun _ w' => K (Go.Q.fr N r) w') : okOp P ops k K (Go.Q.fr N r) w := by
  refine ⟨_, ho, .inl ⟨by simp [Region.wanted], ?_⟩⟩
  rw [fr_eval]; exact h
theorem ok_won {K : Act → World → Prop} {d : Nat} {op : Op} {T : TypeId} {pos : String} {after : Array Edge} {g : Nat} {b : Bool} (k : Nat) (ho : ops[k]? = some ⟨some d, op, T, pos, after, some (g, b)⟩) (t : Nat) (hgt : dstOf ops g = some t) (hg : ev N r (.tmp t) = .bool b)
    (h : OK P ⟨some d, op, T, pos, after, some (g, b)⟩ (ev N r) w fun v w' => K (Go.Q.fr N (upd r d v)) w') : okOp P ops k K (Go.Q.fr N r) w := by
  refine ⟨_, ho, .inl ⟨?_, ?_⟩⟩
  · obtain ⟨og, h1, h2⟩ := dstOf_spec ops g hgt
    rw [wanted_fr h1 h2 hg]; simp
  · rw [fr_eval]; exact h.mono fun v w' hh => by rw [fr_put]; exact hh
end
/-- An element's address, told once. -/
theorem ix_ex1 {α : Type} {f : α → Value} {ls : List α} {a : α} {t e : TypeId} {L : List Hp} {by_ : Nat} {v z : Value} {i : Int} (ht : P.underlying t = some (.slice e)) (hi : TI P e z 1 by_)
    (hs : Sl L 1 v ls.length (ls.map f)) (h0 : 0 ≤ i) (ha : ls[i.toNat]? = some a) : ∃ b off, CellsAt L b off [f a] ∧ ∀ {ρ : Operand → Value} {dst : Option Tmp} {T : TypeId} {pos : String} {after : Array Edge} {g : Option (Nat × Bool)} {x y : Operand} {k : IntKind} {w : World} {K : Value → World → Prop},
      ρ x = v → ρ y = .int k i → K (.pointer (some ⟨b, off, none⟩)) w → OK P ⟨dst, .indexAddr t x y, T, pos, after, g⟩ ρ w K := by
  have hi' : i.toNat < ls.length := (List.getElem?_eq_some_iff.1 ha).1
  obtain ⟨p, cap, rfl, hnc, hcm, hl, hp⟩ := hs
  obtain ⟨b, off, rfl, hc⟩ := hp (by omega)
  have hc' : CellsAt L b (off + i.toNat * 1) (((ls.map f).drop (i.toNat * 1)).take 1) := hc.sub fun j v hv => by
    rw [List.getElem?_take] at hv
    split at hv
    · rw [List.getElem?_drop] at hv; exact hv
    · cases hv
  rw [drop_take_map f ls i.toNat hi', show ls[i.toNat] = a from (List.getElem?_eq_some_iff.1 ha).2] at hc'
  refine ⟨b, _, hc', fun hx hy hK => OK.val (run_v ?_) hK⟩
  rw [hx, hy]
  simp [Instr.indexAt, asIntOf, run_underlying ht, h0, show i < ls.length by omega, hi.size, add_lit]
theorem ix_exF {α : Type} {f : α → List Value} {sz : Nat} (hf : ∀ a, (f a).length = sz) {ls : List α} {a : α} {t e : TypeId} {L : List Hp} {by_ : Nat} {v z : Value} {i : Int} (ht : P.underlying t = some (.slice e)) (hi : TI P e z sz by_)
    (hs : Sl L sz v ls.length (ls.flatMap f)) (h0 : 0 ≤ i) (ha : ls[i.toNat]? = some a) : ∃ b off, CellsAt L b off (f a) ∧ ∀ {ρ : Operand → Value} {dst : Option Tmp} {T : TypeId} {pos : String} {after : Array Edge} {g : Option (Nat × Bool)} {x y : Operand} {k : IntKind} {w : World} {K : Value → World → Prop},
      ρ x = v → ρ y = .int k i → K (.pointer (some ⟨b, off, none⟩)) w → OK P ⟨dst, .indexAddr t x y, T, pos, after, g⟩ ρ w K := by
  have hi' : i.toNat < ls.length := (List.getElem?_eq_some_iff.1 ha).1
  obtain ⟨p, cap, rfl, hnc, hcm, hl, hp⟩ := hs
  obtain ⟨b, off, rfl, hc⟩ := hp (by omega)
  have hc' : CellsAt L b (off + i.toNat * sz) (((ls.flatMap f).drop (i.toNat * sz)).take sz) := hc.sub fun j v hv => by
    rw [List.getElem?_take] at hv
    split at hv
    · rw [List.getElem?_drop] at hv; exact hv
    · cases hv
  rw [flat_part hf ls i.toNat a ha] at hc'
  refine ⟨b, _, hc', fun hx hy hK => OK.val (run_v ?_) hK⟩
  rw [hx, hy]
  simp [Instr.indexAt, asIntOf, run_underlying ht, h0, show i < ls.length by omega, hi.size, add_lit]
theorem o_makeFuncF {ρ : Operand → Value} {w : World} {K : Value → World → Prop} {dst : Option Tmp} {T : TypeId} {pos : String} {after : Array Edge} {g : Option (Nat × Bool)} {f : FuncId} {cs bs : Array Operand} {us vs : Array Value} (hu : bs.map ρ = us) (hv : cs.map ρ = vs)
    (hK : K (.func (.func f) us vs) w) : OK P ⟨dst, .makeFunc (.func f) bs cs, T, pos, after, g⟩ ρ w K := by
  refine OK.val (w' := w) ?_ hK
  subst hv hu; simp [execOp, Instr.makeFunc]
theorem cap0 {ρ : Operand → Value} : (#[] : Array Operand).map ρ = #[] := by simp
end
end Go.Q
namespace Go.Q
section
variable {P : Program} {ops : List Oper} {Q : Exit → Act → World → Prop}
/-- All that a done one waits for is done. -/
def Cl (ops : List Oper) (l : Array Bool) : Prop := ∀ i, l.getD i false = true → ∀ d ∈ depsOf ops i, l.getD d false = true
def anyE (P : Program) (ops : List Oper) (hi : Nat) (K : Act → World → Prop) (I : Array Bool → World → Prop) : Nat → Array Bool → Act → World → Prop
  | 0, l, a, w => I l w ∧ allB hi l = true ∧ K a w
  | n + 1, l, a, w => I l w ∧ allB hi l = false ∧ ∀ i ∈ Region.ready .any ops.toArray l, i < hi → okOp P ops i (anyE P ops hi K I n (l.setIfInBounds i true)) a w
theorem anyE.inv {hi : Nat} {K : Act → World → Prop} {I : Array Bool → World → Prop} : ∀ {n : Nat} {l : Array Bool} {a : Act} {w : World}, anyE P ops hi K I n l a w → I l w
  | 0, _, _, _, h => h.1
  | _ + 1, _, _, _, h => h.1
theorem Cl.set {l : Array Bool} (h : Cl ops l) {j : Nat} (hj : j ∈ Region.ready .any ops.toArray l) : Cl ops (l.setIfInBounds j true) := by
  intro i hi d hd
  by_cases e : j = i
  · subst e
    obtain ⟨_, o, ho, hdone⟩ := mem_ready.1 hj
    have ho' : ops[j]? = some o := by simpa using ho
    unfold depsOf at hd
    rw [ho'] at hd
    obtain ⟨e, he, heq⟩ := List.mem_filterMap.1 hd
    split at heq
    · cases heq; exact getD_set_true (hdone e (by simpa using he) (by assumption))
    · cases heq
  · rw [getD_set_ne false (show j ≠ i from e)] at hi; exact getD_set_true (h i hi d hd)
theorem anyE_first {hi i : Nat} {oi : Oper} {v : Value} {K : Act → World → Prop} {I : Array Bool → World → Prop} (hIm : ∀ l w, l.getD i false = false → I (l.setIfInBounds i true) w → I l w) (hoi : ops[i]? = some oi) (hlt : i < hi)
    (hsel : ∀ (j : Nat) (o : Oper) cs b, ops[j]? = some o → o.op ≠ .select cs b) :
    ∀ (n : Nat) (l : Array Bool) (a : Act) (w : World), Cl ops l →
      (∀ j oj, ops[j]? = some oj → j ≠ i → l.getD j true = false → (∀ e ∈ oj.after, Region.binds .any e = true → e.on ≠ i) → oi.apart ops.toArray oj = true) →
      i ∈ Region.ready .any ops.toArray l → YI P ops oi v a (fun w => ∃ l', Cl ops l' ∧ l'.getD i false = false ∧ I l' w) → anyE P ops hi K I n (l.setIfInBounds i true) (a.put oi.dst v) w → anyE P ops hi K I (n + 1) l a w := by
  intro n
  induction n with
  | zero =>
    intro l a w hcl _ hr hy H
    have hu := ready_un hr
    have hI := hIm l w hu.1 H.inv
    refine ⟨hI, allB_un hu.1 hlt, fun j hj hjh => ?_⟩
    by_cases hji : j = i
    · subst hji; exact hy.ok hoi ⟨l, hcl, hu.1, hI⟩ H
    · have h2 := ready_un (ready_mono hj hji)
      have := allB_un h2.1 hjh
      rw [H.2.1] at this; cases this
  | succ n ih =>
    intro l a w hcl hfree hr hy H
    have hu := ready_un hr
    have hI := hIm l w hu.1 H.inv
    refine ⟨hI, allB_un hu.1 hlt, fun j hj hjh => ?_⟩
    by_cases hji : j = i
    · subst hji; exact hy.ok hoi ⟨l, hcl, hu.1, hI⟩ H
    · have h1 := H.2.2 j (ready_mono hj hji) hjh
      obtain ⟨hjun, oj, hoj, hall⟩ := mem_ready.1 hj
      have hoj' : ops[j]? = some oj := by simpa using hoj
      have hnot : ∀ e ∈ oj.after, Region.binds .any e = true → e.on ≠ i := fun e he hb heq => by
        have h1 := hall e he hb
        rw [heq, hu.1] at h1; cases h1
      have h2 := okOp_put hoj' (hfree j oj hoj' hji hjun hnot) (fun cs b => hsel i oi cs b hoi) (fun cs b => hsel j oj cs b hoj') hy h1
      have hfree' : ∀ k ok, ops[k]? = some ok → k ≠ i → (l.setIfInBounds j true).getD k true = false → (∀ e ∈ ok.after, Region.binds .any e = true → e.on ≠ i) → oi.apart ops.toArray ok = true := fun k ok hk hki hun hno => by
        refine hfree k ok hk hki ?_ hno
        by_cases hjk : j = k
        · subst hjk; exact hjun
        · rw [getD_set_ne true hjk] at hun; exact hun
      refine h2.mono fun a' w' h3 => ih (l.setIfInBounds j true) a' w' (hcl.set hj) hfree' (ready_mono hr (Ne.symm hji)) h3.1 ?_
      rw [Array.setIfInBounds_comm _ _ hji]
      exact h3.2
theorem anyE_wp {hi : Nat} {I : Array Bool → World → Prop} (hok : flowOk3 ops = true) (hbar : barB ops hi = true) (hhi : hi ≤ ops.length) : ∀ (n fuel : Nat) (l : Array Bool) (a : Act) (w : World), l.size = ops.length → (∀ i, hi ≤ i → l.getD i false = false) →
    Cl ops l → n + (ops.length - hi) ≤ fuel → anyE P ops hi (Rest P Q ops hi) I n l a w → wpAny P .any ops.toArray Q fuel l a w
  | 0, fuel, l, a, w, hsz, hnot, _, hf, h => by
    refine h.2.2 hok fuel l hsz (fun i hi' => ?_) hnot (by omega)
    have := h.2.1
    unfold allB at this
    rw [List.all_eq_true] at this
    exact this i (List.mem_range.2 hi')
  | n + 1, fuel, l, a, w, hsz, hnot, hcl, hf, h => by
    obtain ⟨f, rfl⟩ : ∃ f, fuel = f + 1 := ⟨fuel - 1, by omega⟩
    obtain ⟨_, hall, hr⟩ := h
    obtain ⟨m, hm, hum, hmin⟩ : ∃ m, m < hi ∧ l.getD m false = false ∧ ∀ j, j < m → l.getD j false = true := by
      unfold allB at hall
      rw [List.all_eq_false] at hall
      obtain ⟨x, hx, hxu⟩ := hall
      have hx' : x < hi := List.mem_range.1 hx
      have hxu' : l.getD x false = false := by simpa using hxu
      clear hxu hx
      induction x using Nat.strongRecOn with
      | ind x ih =>
        by_cases g : ∃ j, j < x ∧ l.getD j false = false
        · obtain ⟨j, hj, hju⟩ := g; exact ih j hj (by omega) hju
        · exact ⟨x, hx', hxu', fun j hj => by
            cases e : l.getD j false with
            | true => rfl
            | false => exact absurd ⟨j, hj, e⟩ g⟩
    have hml : m < ops.length := by omega
    have hmr : m ∈ Region.ready .any ops.toArray l := by
      refine mem_ready.2 ⟨?_, ops[m], by simp [hml], fun e he hb => ?_⟩
      · have hs : m < l.size := by omega
        simp [hs] at hum ⊢; exact hum
      · have hd := mem_depsOf (List.getElem?_eq_getElem hml) he hb
        exact hmin _ ((flowOk3_spec hok (List.getElem?_eq_getElem hml)).1 _ hd)
    refine ⟨fun g => (by rw [g] at hmr; cases hmr), fun i hi' => ?_⟩
    obtain ⟨hiu, his⟩ := ready_un hi'
    obtain ⟨_, o, ho, hdone⟩ := mem_ready.1 hi'
    have ho' : ops[i]? = some o := by simpa using ho
    have hdeps : ∀ d ∈ depsOf ops i, l.getD d false = true := by
      intro d hd
      unfold depsOf at hd
      rw [ho'] at hd
      obtain ⟨e, he, heq⟩ := List.mem_filterMap.1 hd
      split at heq
      · cases heq; exact hdone e (by simpa using he) (by assumption)
      · cases heq
    have hih : i < hi := by
      rcases Nat.lt_or_ge i hi with g | g
      · exact g
      · have := anc_trans3 hok hcl _ i m (barB_spec hbar i m g (by omega) hm) hdeps
        rw [hum] at this; cases this
    refine wpOp_mono ?_ (hr i hi' hih).wp
    intro a' w' h'
    exact anyE_wp hok hbar hhi n f _ a' w' (by simpa using hsz) (fun j hj => by rw [getD_set_ne false (show i ≠ j by omega)]; exact hnot j hj) (hcl.set hi') (by omega) h'
/-- Up to k1, the first that changes the world, F lies there; G lies there all the way. -/
def I2 (E : World) (k1 : Nat) (F G : List (List Hp)) (l : Array Bool) (w : World) : Prop := (l.getD k1 false = false → Has E w F) ∧ Has E w G
theorem Rest.phaseE {N : Nat} {r : Nat → Value} {w : World} (I : Array Bool → World → Prop) (lo hi m : Nat) (hm : lo + m = hi) (hhi : decide (hi ≤ ops.length) = true) (hbar : barB ops hi = true)
    (h : Cl ops (prefB lo ops.length) → anyE P ops hi (Rest P Q ops hi) I m (prefB lo ops.length) (Go.Q.fr N r) w) : Rest P Q ops lo (Go.Q.fr N r) w := by
  intro hok fuel listed hsz hall hnot hf
  have hhi := of_decide_eq_true hhi
  have e : listed = prefB lo ops.length := by
    unfold prefB
    apply Array.ext
    · simp [hsz]; omega
    · intro i h1 h2
      rcases Nat.lt_or_ge i lo with g | g
      · have := hall i g
        simp [h1] at this
        rw [this]; simp [List.getElem_append, g]
      · have := hnot i g
        simp [h1] at this
        rw [this]; simp [List.getElem_append, Nat.not_lt.2 g]
  subst e
  have hcl : Cl ops (prefB lo ops.length) := fun i hi' d hd => by
    have hil : i < lo := by
      rcases Nat.lt_or_ge i lo with g | g
      · exact g
      · rw [hnot i g] at hi'; cases hi'
    have := (flowOk3_spec hok (List.getElem?_eq_getElem (show i < ops.length by omega))).1 d hd
    exact hall d (by omega)
  exact anyE_wp hok hbar hhi m fuel _ _ w hsz (fun i hi' => hnot i (by omega)) hcl (by omega) (h hcl)
section
variable {hi k1 : Nat} {K : Act → World → Prop} {E : World} {F G : List (List Hp)} {N n : Nat} {l : Array Bool} {r : Nat → Value} {w : World}
theorem I2.early {k : Nat} (hok : flowOk3 ops = true) (h : anc ops ops.length k1 k = true) : ∀ w, (∃ l', Cl ops l' ∧ l'.getD k false = false ∧ I2 E k1 F G l' w) → Has E w F := by
  rintro w ⟨l', hcl, hk, hI⟩
  refine hI.1 ?_
  cases e : l'.getD k1 false with
  | false => rfl
  | true => rw [anc_trans3 hok hcl _ k1 k h (hcl k1 e)] at hk; cases hk
theorem I2.late {k : Nat} : ∀ w, (∃ l', Cl ops l' ∧ l'.getD k false = false ∧ I2 E k1 F G l' w) → Has E w G := fun _ ⟨_, _, _, h⟩ => h.2
theorem I2.mk1 (hF : Has E w F) (hG : Has E w G) : I2 E k1 F G l w := ⟨fun _ => hF, hG⟩
theorem I2.mk2 (h : l.getD k1 false = true) (hG : Has E w G) : I2 E k1 F G l w := ⟨fun g => absurd (h.symm.trans g) (by decide), hG⟩
theorem e_done {a : Act} (h : allB hi l = true) (hI : I2 E k1 F G l w) (hk : K a w) : anyE P ops hi K (I2 E k1 F G) 0 l a w := ⟨hI, h, hk⟩
theorem e_first {k : Nat} {o : Oper} {v : Value} {a : Act} {J : World → Prop} (hcl : Cl ops l) (hne : (k == k1) = false) (ho : ops[k]? = some o) (hf : freeB ops hi l k = true) (hJ : ∀ w, (∃ l', Cl ops l' ∧ l'.getD k false = false ∧ I2 E k1 F G l' w) → J w) (hy : YI P ops o v a J)
    (h : Cl ops (l.setIfInBounds k true) → anyE P ops hi K (I2 E k1 F G) n (l.setIfInBounds k true) (a.put o.dst v) w) : anyE P ops hi K (I2 E k1 F G) (n + 1) l a w := by
  obtain ⟨h1, h2, h3, h4⟩ := freeB_spec hf
  have ho' : ops.toArray[k]? = some o := by simpa using ho
  have hne' : k ≠ k1 := by simpa using hne
  refine anyE_first (fun l w _ hI => ⟨fun g => hI.1 (by rw [getD_set_ne false hne']; exact g), hI.2⟩) ho h4 (fun j o cs b hj => Region.noSelect_spec h1 j o cs b (by simpa using hj)) n l a w hcl (fun j oj hj => Region.free_spec ho' h2 j oj (by simpa using hj)) h3 ?_ (h (hcl.set h3))
  exact hy.imp (fun g => ⟨g.1, fun w hw => g.2 w (hJ w hw)⟩) id
theorem e_op {d : Nat} {op : Op} {T : TypeId} {pos : String} {after : Array Edge} {v : Value} {J : World → Prop} (k : Nat) (hcl : Cl ops l) (hne : (k == k1) = false) (ho : ops[k]? = some ⟨some d, op, T, pos, after, none⟩) (hf : freeB ops hi l k = true) (hJ : ∀ w, (∃ l', Cl ops l' ∧ l'.getD k false = false ∧ I2 E k1 F G l' w) → J w)
    (hv : ∀ w', J w' → OK P ⟨some d, op, T, pos, after, none⟩ (ev N r) w' fun v' w'' => v' = v ∧ w'' = w') (h : Cl ops (l.setIfInBounds k true) → anyE P ops hi K (I2 E k1 F G) n (l.setIfInBounds k true) (Go.Q.fr N (upd r d v)) w) : anyE P ops hi K (I2 E k1 F G) (n + 1) l (Go.Q.fr N r) w := by
  refine e_first hcl hne ho hf hJ (.inl ⟨by simp [Region.wanted], fun w' hI => ?_⟩) (v := v) (by rw [fr_put]; exact h)
  rw [fr_eval]; exact hv w' hI
theorem e_on {d : Nat} {op : Op} {T : TypeId} {pos : String} {after : Array Edge} {g : Nat} {b : Bool} {v : Value} {J : World → Prop} (k : Nat) (hcl : Cl ops l) (hne : (k == k1) = false) (ho : ops[k]? = some ⟨some d, op, T, pos, after, some (g, b)⟩) (hf : freeB ops hi l k = true) (hJ : ∀ w, (∃ l', Cl ops l' ∧ l'.getD k false = false ∧ I2 E k1 F G l' w) → J w) (t : Nat) (hgt : dstOf ops g = some t) (hg : ev N r (.tmp t) = .bool b)
    (hv : ∀ w', J w' → OK P ⟨some d, op, T, pos, after, some (g, b)⟩ (ev N r) w' fun v' w'' => v' = v ∧ w'' = w') (h : Cl ops (l.setIfInBounds k true) → anyE P ops hi K (I2 E k1 F G) n (l.setIfInBounds k true) (Go.Q.fr N (upd r d v)) w) : anyE P ops hi K (I2 E k1 F G) (n + 1) l (Go.Q.fr N r) w := by
  refine e_first hcl hne ho hf hJ (.inl ⟨?_, fun w' hI => ?_⟩) (v := v) (by rw [fr_put]; exact h)
  · obtain ⟨og, h1, h2⟩ := dstOf_spec ops g hgt
    rw [wanted_fr h1 h2 hg]; simp
  · rw [fr_eval]; exact hv w' hI
theorem e_off {d : Nat} {op : Op} {T : TypeId} {pos : String} {after : Array Edge} {g : Nat} {b b' : Bool} (k : Nat) (hcl : Cl ops l) (hne : (k == k1) = false) (ho : ops[k]? = some ⟨some d, op, T, pos, after, some (g, b)⟩) (hf : freeB ops hi l k = true) (t : Nat) (hgt : dstOf ops g = some t) (hg : ev N r (.tmp t) = .bool b') (hb : (b' == b) = false)
    (h : Cl ops (l.setIfInBounds k true) → anyE P ops hi K (I2 E k1 F G) n (l.setIfInBounds k true) (Go.Q.fr N (upd r d undef)) w) : anyE P ops hi K (I2 E k1 F G) (n + 1) l (Go.Q.fr N r) w := by
  refine e_first hcl hne ho hf (J := fun _ => True) (fun _ _ => trivial) (.inr ⟨?_, rfl⟩) (by rw [fr_put]; exact h)
  obtain ⟨og, h1, h2⟩ := dstOf_spec ops g hgt
  rw [wanted_fr h1 h2 hg, hb]
theorem e_only {k : Nat} {o : Oper} {a : Act} (hcl : Cl ops l) (ho : ops[k]? = some o) (hr : onlyB ops hi l k = true) (hI : I2 E k1 F G l w) (h : Cl ops (l.setIfInBounds k true) → okOp P ops k (anyE P ops hi K (I2 E k1 F G) n (l.setIfInBounds k true)) a w) : anyE P ops hi K (I2 E k1 F G) (n + 1) l a w := by
  obtain ⟨h1, h2, h3⟩ := onlyB_spec hr
  exact ⟨hI, allB_un (ready_un h2).1 h3, fun i hi' hlt => by rw [h1 i hi' hlt]; exact h (hcl.set h2)⟩
theorem e_w {d : Nat} {op : Op} {T : TypeId} {pos : String} {after : Array Edge} (k : Nat) (hcl : Cl ops l) (ho : ops[k]? = some ⟨some d, op, T, pos, after, none⟩) (hr : onlyB ops hi l k = true) (hI : I2 E k1 F G l w)
    (h : Cl ops (l.setIfInBounds k true) → OK P ⟨some d, op, T, pos, after, none⟩ (ev N r) w fun v w' => anyE P ops hi K (I2 E k1 F G) n (l.setIfInBounds k true) (Go.Q.fr N (upd r d v)) w') : anyE P ops hi K (I2 E k1 F G) (n + 1) l (Go.Q.fr N r) w := by
  refine e_only hcl ho hr hI fun hc => ⟨_, ho, .inl ⟨by simp [Region.wanted], ?_⟩⟩
  rw [fr_eval]; exact (h hc).mono fun v w' hh => by rw [fr_put]; exact hh
theorem e_we {op : Op} {T : TypeId} {pos : String} {after : Array Edge} (k : Nat) (hcl : Cl ops l) (ho : ops[k]? = some ⟨none, op, T, pos, after, none⟩) (hr : onlyB ops hi l k = true) (hI : I2 E k1 F G l w)
    (h : Cl ops (l.setIfInBounds k true) → OK P ⟨none, op, T, pos, after, none⟩ (ev N r) w fun _ w' => anyE P ops hi K (I2 E k1 F G) n (l.setIfInBounds k true) (Go.Q.fr N r) w') : anyE P ops hi K (I2 E k1 F G) (n + 1) l (Go.Q.fr N r) w := by
  refine e_only hcl ho hr hI fun hc => ⟨_, ho, .inl ⟨by simp [Region.wanted], ?_⟩⟩
  rw [fr_eval]; exact h hc
theorem e_won {d : Nat} {op : Op} {T : TypeId} {pos : String} {after : Array Edge} {g : Nat} {b : Bool} (k : Nat) (hcl : Cl ops l) (ho : ops[k]? = some ⟨some d, op, T, pos, after, some (g, b)⟩) (hr : onlyB ops hi l k = true) (hI : I2 E k1 F G l w) (t : Nat) (hgt : dstOf ops g = some t) (hg : ev N r (.tmp t) = .bool b)
    (h : Cl ops (l.setIfInBounds k true) → OK P ⟨some d, op, T, pos, after, some (g, b)⟩ (ev N r) w fun v w' => anyE P ops hi K (I2 E k1 F G) n (l.setIfInBounds k true) (Go.Q.fr N (upd r d v)) w') : anyE P ops hi K (I2 E k1 F G) (n + 1) l (Go.Q.fr N r) w := by
  refine e_only hcl ho hr hI fun hc => ⟨_, ho, .inl ⟨?_, ?_⟩⟩
  · obtain ⟨og, h1, h2⟩ := dstOf_spec ops g hgt
    rw [wanted_fr h1 h2 hg]; simp
  · rw [fr_eval]; exact (h hc).mono fun v w' hh => by rw [fr_put]; exact hh
end
end
end Go.Q
namespace Go.Q
/-- the slice of the first j elements -/
def headV : Value → Nat → Nat → Value
  | .slice p _ c, j, sz => sliced p 0 j c sz
  | v, _, _ => v
theorem sl_head {L : List Hp} {sz n : Nat} {v : Value} {cs : List Value} (hs : Sl L sz v n cs) {j : Nat} (hj : j ≤ n) : Sl L sz (headV v j sz) j (cs.take (j * sz)) := by
  obtain ⟨p, cap, rfl⟩ := hs.form
  obtain ⟨p', cap', e2, hnc, hcm, hl, hp⟩ := hs
  cases e2
  have hle : j * sz ≤ n * sz := Nat.mul_le_mul_right _ hj
  unfold headV sliced
  refine ⟨_, _, rfl, by omega, by omega, ?_, fun h => ?_⟩
  · rw [List.length_take, hl]; omega
  · obtain ⟨b, off, rfl, hc⟩ := hp (by omega)
    refine ⟨b, off, ?_, hc.take⟩
    split <;> simp [add_lit]
theorem flatMap_take {α β : Type} (f : α → List β) (n : Nat) (hf : ∀ x, (f x).length = n) : ∀ (l : List α) (j : Nat), (l.flatMap f).take (j * n) = (l.take j).flatMap f
  | [], j => by simp
  | x :: l, 0 => by simp
  | x :: l, j + 1 => by
    rw [List.flatMap_cons, List.take_succ_cons, List.flatMap_cons, ← flatMap_take f n hf l j, List.take_append, hf, List.take_of_length_le (by rw [hf, Nat.add_mul]; omega), show (j + 1) * n - n = j * n by rw [Nat.add_mul]; omega]
theorem sl_headf {α : Type} {f : α → List Value} {sz : Nat} (hf : ∀ x, (f x).length = sz) {L : List Hp} {v : Value} {l : List α} (hs : Sl L sz v l.length (l.flatMap f)) {j : Nat} (hj : j ≤ l.length) : Sl L sz (headV v j sz) (l.take j).length ((l.take j).flatMap f) := by
  have h := sl_head hs hj
  rw [flatMap_take f sz hf] at h
  rw [List.length_take, Nat.min_eq_left hj]; exact h
section ops
variable {P : Program} {ρ : Operand → Value} {E w : World} {ss : List (List Hp)} {K : Value → World → Prop} {dst : Option Tmp} {T : TypeId} {pos : String} {after : Array Edge} {g : Option (Nat × Bool)}
/-- s[:j] of a row that is read -/
theorem o_slh {x y : Operand} {t e : TypeId} {zz : Value} {v : Value} {sz by_ n : Nat} {cs : List Value} {L : List Hp} {k : IntKind} {j : Int} (ht : P.underlying t = some (.slice e)) (hi : TI P e zz sz by_)
    (hx : ρ x = v) (hs : Sl L sz v n cs) (hy : ρ y = .int k j) (h0 : 0 ≤ j) (h1 : j ≤ n)
    (hK : K (headV v j.toNat sz) w) : OK P ⟨dst, .slice t x none (some y) none, T, pos, after, g⟩ ρ w K := by
  have e1 : P.elem t = e := by simp [Program.elem, ht]
  obtain ⟨p, cap, rfl⟩ := hs.form
  obtain ⟨p', cap', e2, hnc, hcm, hl, hp⟩ := hs
  cases e2
  have hrun : (Instr.sliceAt t (ρ x) ((none : Option Operand).map ρ) ((some y).map ρ) ((none : Option Operand).map ρ)).run P w = .ok (sliced p 0 j.toNat cap sz) w := by
    simp only [hx, hy, Option.map_some, Option.map_none]
    rw [run_sliceAt_slice _ _ _ _ _ _ (by rw [e1]; exact ht), run_slice_any _ _ _ _ _ (by rw [e1]; exact ht), bounds_h h0 (by omega), e1]
    simp only [Result.andThen_ok, hi.size, Int.toNat_natCast]; rfl
  exact OK.val (run_v hrun) hK
end ops
end Go.Q
namespace Go.Q
section
variable {P : Program} {E w : World} {ss : List (List Hp)} {N : Nat} {r : Nat → Value}
theorem run_loadVarN {t : TypeId} {d : TypeDesc} {L : List Hp} {b off : Nat} {cs : List Value} {z : Value} {by_ : Nat} (ht : P.underlying t = some d) (hd : aggB d = true)
    (hi : TI P t z cs.length by_) (H : Has E w ss) (hL : L ⊆ ss.flatten) (hc : CellsAt L b off cs) : (loadVar t ⟨b, off, none⟩).run P w = .ok (.agg cs.toArray) w := by
  simp only [Sem.run_bind, Sem.run_pure, Result.andThen_ok, loadVar, run_isAgg ht, hd, if_true, hi.size]
  rw [run_loadCells_list (P := P) (w := w) ⟨b, off, none⟩ cs (fun j v hv => by rw [add_lit]; exact H.cell hL hc hv)]
  rfl
theorem run_loadVar1 {t : TypeId} {d : TypeDesc} {L : List Hp} {b off : Nat} {v : Value} (ht : P.underlying t = some d) (hd : aggB d = false)
    (H : Has E w ss) (hL : L ⊆ ss.flatten) (hc : CellsAt L b off [v]) : (loadVar t ⟨b, off, none⟩).run P w = .ok v w := by
  have e := H.cell (j := 0) (v := v) hL hc rfl
  simp only [Sem.run_bind, Sem.run_pure, Result.andThen_ok, loadVar, run_isAgg ht, hd]
  simp only [Bool.false_eq_true, if_false, run_load]
  rw [show (⟨b, off, none⟩ : Addr) = ⟨b, off + 0, none⟩ from rfl, e]
theorem c_retC1 {fn : Func} {R : Ending → World → Prop} {t : Tmp} {T : TypeId} {a : Addr} {v : Value} (hr : fn.results = #[.cell t T]) (hv : ev N r (.tmp t) = .pointer (some a)) (hl : (loadVar T a).run P w = .ok v w) (hR : R (.returned v) w) :
    bodyPost P fn R .ret (Go.Q.fr N r) w := by
  refine bodyPost_ret (v := v) ?_ rfl hR
  have e : ∀ t, (Go.Q.fr N r).tmps[t]?.getD undef = ev N r (.tmp t) := fun t => by rw [← getD_fr, Array.getD_eq_getD_getElem?]
  simp [results, hr, e, hv, asAddr, hl]
theorem c_retC2 {fn : Func} {R : Ending → World → Prop} {t u : Tmp} {T : TypeId} {a : Addr} {v x : Value} (hr : fn.results = #[.cell t T, .tmp u]) (hv : ev N r (.tmp t) = .pointer (some a)) (hl : (loadVar T a).run P w = .ok v w) (hx : ev N r (.tmp u) = x)
    (hR : R (.returned (.tuple #[v, x])) w) : bodyPost P fn R .ret (Go.Q.fr N r) w := by
  refine bodyPost_ret (v := .tuple #[v, x]) ?_ rfl hR
  have e : ∀ t, (Go.Q.fr N r).tmps[t]?.getD undef = ev N r (.tmp t) := fun t => by rw [← getD_fr, Array.getD_eq_getD_getElem?]
  simp [results, hr, e, hv, asAddr, hl, hx]
theorem c_retC3 {fn : Func} {R : Ending → World → Prop} {t u s : Tmp} {T : TypeId} {a : Addr} {v x y : Value} (hr : fn.results = #[.cell t T, .tmp u, .tmp s]) (hv : ev N r (.tmp t) = .pointer (some a)) (hl : (loadVar T a).run P w = .ok v w) (hx : ev N r (.tmp u) = x) (hy : ev N r (.tmp s) = y)
    (hR : R (.returned (.tuple #[v, x, y])) w) : bodyPost P fn R .ret (Go.Q.fr N r) w := by
  refine bodyPost_ret (v := .tuple #[v, x, y]) ?_ rfl hR
  have e : ∀ t, (Go.Q.fr N r).tmps[t]?.getD undef = ev N r (.tmp t) := fun t => by rw [← getD_fr, Array.getD_eq_getD_getElem?]
  simp [results, hr, e, hv, asAddr, hl, hx, hy]
end
end Go.Q
namespace Go.Q
open Go.Proofs
set_option linter.unusedVariables false
set_option maxRecDepth 100000
attribute [local irreducible] wpList OK Code.wp
set_option maxHeartbeats 4000000 in
theorem keyf_c {E w : World} {R : List Hp} {k : Bs}  (hH : Has E w [R]) :
    Calls Tryd.prog 75 #[(S k)] w fun e w' => e = .returned (.bool (keyR k)) ∧ Has E w' [R] := by
  refine c_enter (args := [(S k)]) Tryd.func75 rfl Tryd.ntmps75 (by simp) ?_
  refine wp_seq_k fun K1 hK1 => ?_
  refine c_region ?_
  refine s_op (o_assign (v := (.bool false)) rfl ?_)
  refine s_nil ?_
  refine t_norm (hK1 _ _ ?_)
  refine wp_seq_k fun K2 hK2 => ?_
  refine c_region ?_
  refine s_op (o_move (v := (S k)) rfl ?_)
  refine s_op (o_sneq (a := k) (b := ([] : List UInt8)) rfl rfl ?_)
  refine s_op (o_move (v := (.bool (decide (k ≠ ([] : List UInt8))))) rfl ?_)
  by_cases h3 : k ≠ ([] : List UInt8)
  · -- k ≠ ([] : List UInt8)
    refine s_on 5 rfl (congrArg Value.bool (decide_eq_true h3)) (o_move (v := (S k)) rfl ?_)
    refine s_on 5 rfl (congrArg Value.bool (decide_eq_true h3)) (o_slen Tryd.underlying9 rfl ?_)
    refine s_on 5 rfl (congrArg Value.bool (decide_eq_true h3)) (o_leq (a := (k.length : Int)) (b := 8) rfl rfl ?_)
    refine s_op (o_pick_t (u := (.bool (decide ((k.length : Int) ≤ 8)))) ((rfl : _ = _).trans (congrArg Value.bool (decide_eq_true h3))) rfl ?_)
    refine s_op (o_assign (v := (.bool (decide ((k.length : Int) ≤ 8)))) rfl ?_)
    refine s_nil ?_
    refine t_norm (hK2 _ _ ?_)
    refine wp_ret ?_
    refine c_ret1 Tryd.results75  (v := (.bool (decide ((k.length : Int) ≤ 8)))) rfl ?_
    have q4 : (keyR k) = decide ((k.length : Int) ≤ 8) := by rw [Bool.eq_iff_iff]; first | (simp [keyR, h3]; done) | (simp_all [keyR]; done)
    exact ⟨by rw [q4], hH⟩
  · -- not: k ≠ ([] : List UInt8)
    refine s_off (b' := false) 5 rfl (congrArg Value.bool (decide_eq_false h3)) rfl ?_
    refine s_off (b' := false) 5 rfl (congrArg Value.bool (decide_eq_false h3)) rfl ?_
    refine s_off (b' := false) 5 rfl (congrArg Value.bool (decide_eq_false h3)) rfl ?_
    refine s_op (o_pick_f (u := (.bool false)) ((rfl : _ = _).trans (congrArg Value.bool (decide_eq_false h3))) rfl ?_)
    refine s_op (o_assign (v := (.bool false)) rfl ?_)
    refine s_nil ?_
    refine t_norm (hK2 _ _ ?_)
    refine wp_ret ?_
    refine c_ret1 Tryd.results75  (v := (.bool false)) rfl ?_
    have q5 : (keyR k) = false := by rw [Bool.eq_iff_iff]; first | (simp [keyR, h3]; done) | (simp_all [keyR]; done)
    exact ⟨by rw [q5], hH⟩
set_option maxHeartbeats 4000000 in
theorem valf_c {E w : World} {R : List Hp} {v : Bool × Bs}  (hH : Has E w [R]) :
    Calls Tryd.prog 77 #[(.agg #[(.bool v.1), (S v.2)])] w fun e w' => e = .returned (.bool (valR v)) ∧ Has E w' [R] := by
  refine c_enter (args := [(.agg #[(.bool v.1), (S v.2)])]) Tryd.func77 rfl Tryd.ntmps77 (by simp) ?_
  refine wp_seq_k fun K1 hK1 => ?_
  refine c_region ?_
  refine s_op (o_box (cs := #[(.bool v.1), (S v.2)]) rfl rfl hH fun b2 w3 hH4 => ?_)
  refine s_op (o_assign (v := (.bool false)) rfl ?_)
  refine s_nil ?_
  refine t_norm (hK1 _ _ ?_)
  refine wp_seq_k fun K5 hK5 => ?_
  refine c_region ?_
  refine s_op (o_fieldAddr (k := 1) (fun _ => by kernel_rfl) rfl ?_)
  refine s_op (o_load1 (v := (S v.2)) Tryd.underlying9 rfl rfl hH4 (seg_sub 0 rfl) (CellsAt.one rfl) ?_)
  refine s_op (o_slen Tryd.underlying9 rfl ?_)
  refine s_op (o_leq (a := (v.2.length : Int)) (b := 16) rfl rfl ?_)
  refine s_op (o_move (v := (.bool (decide ((v.2.length : Int) ≤ 16)))) rfl ?_)
  by_cases h6 : (v.2.length : Int) ≤ 16
  · -- (v.2.length : Int) ≤ 16
    refine s_on 7 rfl (congrArg Value.bool (decide_eq_true h6)) (o_fieldAddr (k := 0) (fun _ => by kernel_rfl) rfl ?_)
    refine s_on 7 rfl (congrArg Value.bool (decide_eq_true h6)) (o_load1 (v := (.bool v.1)) Tryd.underlying4 rfl rfl hH4 (seg_sub 0 rfl) (CellsAt.one rfl) ?_)
    refine s_on 7 rfl (congrArg Value.bool (decide_eq_true h6)) (o_move (v := (.bool v.1)) rfl ?_)
    rcases Bool.eq_false_or_eq_true v.1 with h7 | h7
    · -- v.1
      refine s_off (b' := true) 10 rfl (congrArg Value.bool h7) rfl ?_
      refine s_off (b' := true) 10 rfl (congrArg Value.bool h7) rfl ?_
      refine s_off (b' := true) 10 rfl (congrArg Value.bool h7) rfl ?_
      refine s_on 7 rfl (congrArg Value.bool (decide_eq_true h6)) (o_pick_t (u := (.bool true)) ((rfl : _ = _).trans (congrArg Value.bool h7)) rfl ?_)
      refine s_op (o_pick_t (u := (.bool true)) ((rfl : _ = _).trans (congrArg Value.bool (decide_eq_true h6))) rfl ?_)
      refine s_op (o_assign (v := (.bool true)) rfl ?_)
      refine s_nil ?_
      refine t_norm (hK5 _ _ ?_)
      refine wp_ret ?_
      refine c_ret1 Tryd.results77  (v := (.bool true)) rfl ?_
      have q8 : (valR v) = true := by rw [Bool.eq_iff_iff]; first | (simp [valR, h6, h7]; done) | (simp_all [valR]; done)
      have hH9 : Has E w3 [R] := (hH4.front 1 rfl).first 1 rfl
      exact ⟨by rw [q8], hH9⟩
    · -- not: v.1
      refine s_on 10 rfl (congrArg Value.bool h7) (o_fieldAddr (k := 1) (fun _ => by kernel_rfl) rfl ?_)
      refine s_on 10 rfl (congrArg Value.bool h7) (o_load1 (v := (S v.2)) Tryd.underlying9 rfl rfl hH4 (seg_sub 0 rfl) (CellsAt.one rfl) ?_)
      refine s_on 10 rfl (congrArg Value.bool h7) (o_seql (a := v.2) (b := ([] : List UInt8)) rfl rfl ?_)
      refine s_on 7 rfl (congrArg Value.bool (decide_eq_true h6)) (o_pick_f (u := (.bool (decide (v.2 = ([] : List UInt8))))) ((rfl : _ = _).trans (congrArg Value.bool h7)) rfl ?_)
      refine s_op (o_pick_t (u := (.bool (decide (v.2 = ([] : List UInt8))))) ((rfl : _ = _).trans (congrArg Value.bool (decide_eq_true h6))) rfl ?_)
      refine s_op (o_assign (v := (.bool (decide (v.2 = ([] : List UInt8))))) rfl ?_)
      refine s_nil ?_
      refine t_norm (hK5 _ _ ?_)
      refine wp_ret ?_
      refine c_ret1 Tryd.results77  (v := (.bool (decide (v.2 = ([] : List UInt8))))) rfl ?_
      have q10 : (valR v) = decide (v.2 = ([] : List UInt8)) := by rw [Bool.eq_iff_iff]; first | (simp [valR, h6, h7]; done) | (simp_all [valR]; done)
      have hH11 : Has E w3 [R] := (hH4.front 1 rfl).first 1 rfl
      exact ⟨by rw [q10], hH11⟩
  · -- not: (v.2.length : Int) ≤ 16
    refine s_off (b' := false) 7 rfl (congrArg Value.bool (decide_eq_false h6)) rfl ?_
    refine s_off (b' := false) 7 rfl (congrArg Value.bool (decide_eq_false h6)) rfl ?_
    refine s_off (b' := false) 7 rfl (congrArg Value.bool (decide_eq_false h6)) rfl ?_
    refine s_offu 10 rfl rfl ?_
    refine s_offu 10 rfl rfl ?_
    refine s_offu 10 rfl rfl ?_
    refine s_off (b' := false) 7 rfl (congrArg Value.bool (decide_eq_false h6)) rfl ?_
    refine s_op (o_pick_f (u := (.bool false)) ((rfl : _ = _).trans (congrArg Value.bool (decide_eq_false h6))) rfl ?_)
    refine s_op (o_assign (v := (.bool false)) rfl ?_)
    refine s_nil ?_
    refine t_norm (hK5 _ _ ?_)
    refine wp_ret ?_
    refine c_ret1 Tryd.results77  (v := (.bool false)) rfl ?_
    have q12 : (valR v) = false := by rw [Bool.eq_iff_iff]; first | (simp [valR, h6]; done) | (simp_all [valR]; done)
    have hH13 : Has E w3 [R] := (hH4.front 1 rfl).first 1 rfl
    exact ⟨by rw [q12], hH13⟩
set_option maxHeartbeats 4000000 in
theorem sindexf_c {E w : World} {R : List Hp} {v_l : Value} {l : List (List UInt8)} {fn : FuncId} {first cap : Array Value} {va : Value → Array Value} {c : (List UInt8) → Bool}  (hH : Has E w [R]) (h_l : Sl R 1 v_l l.length (l.map sV)) (hcl : Callable Tryd.prog fn) (hva : ∀ v, first ++ #[v] ++ cap = va v) (hcb : ∀ {w : World} (F_ : List Hp) (x_ : List UInt8), Has E w [R, F_] → Calls Tryd.prog fn (va (S x_)) w fun e w' => e = .returned (.bool (c x_)) ∧ Has E w' [R, F_]) :
    Calls Tryd.prog 135 #[v_l, (.func (.func fn) first cap)] w fun e w' => e = .returned (.int .i64 (idxG c l)) ∧ Has E w' [R] := by
  have hn_ := h_l.le
  refine c_enter (args := [v_l, (.func (.func fn) first cap)]) Tryd.func135 rfl Tryd.ntmps135 (by simp) ?_
  refine wp_seq_k fun K1 hK1 => ?_
  refine c_region ?_
  refine s_op (o_assign (v := (.int .i64 0)) rfl ?_)
  refine s_nil ?_
  refine t_norm (hK1 _ _ ?_)
  refine wp_seq_k fun K2 hK2 => ?_
  refine wp_seq_k fun K3 hK3 => ?_
  refine c_region ?_
  refine s_op (o_move (v := v_l) rfl ?_)
  refine s_op (o_lenS Tryd.underlying32 rfl h_l ?_)
  refine s_op (o_move (v := (.int .i64 0)) rfl ?_)
  refine s_nil ?_
  refine t_norm (hK3 _ _ ?_)
  refine wp_block ?_
  let I5 : Nat → (Nat → Value) → World → Prop := fun n__ r__ w__ => ∃ (k : Nat), n__ = l.length - k ∧ Has E w__ [R] ∧ (k ≤ l.length) ∧ (∀ j, j < k → ∀ y, l[j]? = some y → c y = false) ∧ r__ 0 = v_l ∧ r__ 1 = (.func (.func fn) first cap) ∧ r__ 7 = (.int .i64 ((l.length : Nat) : Int)) ∧ r__ 8 = (.int .i64 (k : Int))
  refine c_loop I5 _ ⟨0, rfl, hH, Nat.zero_le _, fun j hj => by omega, rfl, rfl, rfl, rfl⟩ ?_
  rintro n_ r8 w6 ⟨k, rfl, hH7, hk, hf, e4_0, e4_1, e4_7, e4_8⟩
  refine wp_seq_k fun K9 hK9 => ?_
  refine c_region ?_
  refine s_op (o_lss (a := (k : Int)) (b := ((l.length : Nat) : Int)) e4_8 e4_7 ?_)
  refine s_nil ?_
  refine t_norm (hK9 _ _ ?_)
  refine wp_seq_k fun K10 hK10 => ?_
  refine c_cond rfl (fun h11 => ?_) (fun h11 => ?_)
  · -- (k : Int) < ((l.length : Nat) : Int)
    refine wp_skip ?_
    refine t_norm (hK10 _ _ ?_)
    refine wp_seq_k fun K12 hK12 => ?_
    refine wp_block ?_
    refine wp_seq_k fun K13 hK13 => ?_
    refine c_region ?_
    refine s_op (o_move (v := (.int .i64 (k : Int))) e4_8 ?_)
    refine s_op (o_assign (v := (.int .i64 (k : Int))) rfl ?_)
    refine s_nil ?_
    refine t_norm (hK13 _ _ ?_)
    refine wp_seq_k fun K14 hK14 => ?_
    refine c_region ?_
    refine s_op (o_move (v := (.func (.func fn) first cap)) e4_1 ?_)
    refine s_op (o_move (v := v_l) e4_0 ?_)
    refine s_op (o_move (v := (.int .i64 (k : Int))) rfl ?_)
    obtain ⟨x18, hx19⟩ : ∃ x_, l[((k : Int)).toNat]? = some x_ := get_some (by omega)
    refine s_op (o_index1 Tryd.underlying32 ti9 rfl h_l rfl (by omega) hx19 fun b15 o16 hc17 => ?_)
    refine s_op (o_load1 (v := (S x18)) Tryd.underlying9 rfl rfl hH7 (seg_sub 0 rfl) hc17 ?_)
    refine s_op (o_callf (first := first) (captured := cap) (vs := va (S x18)) hcl rfl ((argsG1 rfl).trans (hva _)) (hcb _ x18 hH7.all1) ?_)
    rintro _ w22 ⟨rfl, hX20⟩
    refine ⟨_, rfl, ?_⟩
    have hH21 := hX20.of_all1
    refine s_nil ?_
    refine t_norm (hK14 _ _ ?_)
    refine c_condb rfl (fun h23 => ?_) (fun h23 => ?_)
    · -- c x18
      refine wp_seq_k fun K24 hK24 => ?_
      refine c_region ?_
      refine s_op (o_move (v := (.int .i64 (k : Int))) rfl ?_)
      refine s_op (o_assign (v := (.int .i64 (k : Int))) rfl ?_)
      refine s_nil ?_
      refine t_norm (hK24 _ _ ?_)
      refine wp_ret ?_
      refine b_ret (t_ret (t_ret (b_ret (t_ret (c_ret1 Tryd.results135  (v := (.int .i64 (k : Int))) rfl ?_)))))
      have q25 : idxG c l = (k : Int) := by exact idxG_some hf (show l[k]? = some _ from hx19) h23
      exact ⟨by rw [q25], hH21⟩
    · -- not: c x18
      refine wp_skip ?_
      refine b_norm ?_
      refine t_norm (hK12 _ _ ?_)
      refine c_region ?_
      refine s_op (o_add (a := (k : Int)) (b := 1) e4_8 rfl (w64 (by omega) (by omega)) ?_)
      refine s_op (o_move (v := (.int .i64 ((k : Int) + 1))) rfl ?_)
      refine s_nil ?_
      refine t_norm ⟨l.length - (k + 1), _, rfl, ?_, ?_⟩
      · omega
      · exact ⟨(k + 1), rfl, hH21, (by omega), ((fun j hj y hy => by rcases Nat.lt_or_ge j k with g | g; exact hf j g y hy; obtain rfl : j = k := (by omega); have e_ := hy.symm.trans (show l[j]? = some _ from hx19); cases e_; exact h23)), e4_0, e4_1, e4_7, rfl⟩
  · -- not: (k : Int) < ((l.length : Nat) : Int)
    refine wp_exit ?_
    refine t_exit (t_exit (x_in (?_)))
    refine t_norm (hK2 _ _ ?_)
    refine wp_seq_k fun K26 hK26 => ?_
    refine c_region ?_
    refine s_op (o_assign (v := (.int .i64 (-1))) rfl ?_)
    refine s_nil ?_
    refine t_norm (hK26 _ _ ?_)
    refine wp_ret ?_
    refine c_ret1 Tryd.results135  (v := (.int .i64 (-1))) rfl ?_
    have q27 : idxG c l = -1 := by exact idxG_none fun j x hx => hf j (by have := (List.getElem?_eq_some_iff.1 hx).1; omega) x hx
    exact ⟨by rw [q27], hH7⟩
set_option maxHeartbeats 4000000 in
theorem scontainsf_c {E w : World} {R : List Hp} {v_l : Value} {l : List (List UInt8)} {fn : FuncId} {first cap : Array Value} {va : Value → Array Value} {c : (List UInt8) → Bool}  (hH : Has E w [R]) (h_l : Sl R 1 v_l l.length (l.map sV)) (hcl : Callable Tryd.prog fn) (hva : ∀ v, first ++ #[v] ++ cap = va v) (hcb : ∀ {w : World} (F_ : List Hp) (x_ : List UInt8), Has E w [R, F_] → Calls Tryd.prog fn (va (S x_)) w fun e w' => e = .returned (.bool (c x_)) ∧ Has E w' [R, F_]) :
    Calls Tryd.prog 105 #[v_l, (.func (.func fn) first cap)] w fun e w' => e = .returned (.bool (l.any c)) ∧ Has E w' [R] := by
  refine c_enter (args := [v_l, (.func (.func fn) first cap)]) Tryd.func105 rfl Tryd.ntmps105 (by simp) ?_
  refine wp_seq_k fun K1 hK1 => ?_
  refine c_region ?_
  refine s_op (o_assign (v := (.bool false)) rfl ?_)
  refine s_nil ?_
  refine t_norm (hK1 _ _ ?_)
  refine wp_seq_k fun K2 hK2 => ?_
  refine c_region ?_
  refine s_op (o_move (v := v_l) rfl ?_)
  refine s_op (o_move (v := (.func (.func fn) first cap)) rfl ?_)
  refine s_op (o_callf (vs := #[v_l, (.func (.func fn) first cap)]) ca135 rfl (args2 rfl rfl) (sindexf_c (l := l) (c := c) (va := va) hH.all (h_l.mono (seg_sub 0 rfl)) hcl hva (cb_more (α := List UInt8) (R := R) (va := fun x_ => va (S x_)) (A := fun x_ e_ => e_ = .returned (.bool (c x_))) hcb)) ?_)
  rintro _ w5 ⟨rfl, hX3⟩
  refine ⟨_, rfl, ?_⟩
  have hH4 := hX3.of_all
  refine s_op (o_geq (a := idxG c l) (b := 0) rfl rfl ?_)
  refine s_op (o_assign (v := (.bool (decide (0 ≤ idxG c l)))) rfl ?_)
  refine s_nil ?_
  refine t_norm (hK2 _ _ ?_)
  refine wp_ret ?_
  refine c_ret1 Tryd.results105  (v := (.bool (decide (0 ≤ idxG c l)))) rfl ?_
  have q6 : l.any c = decide (0 ≤ idxG c l) := by exact idxG_any.symm
  exact ⟨by rw [q6], hH4⟩
set_option maxHeartbeats 4000000 in
theorem all1s_c {E w : World} {R : List Hp} {x : Bs} {bx : Nat}  {fn : FuncId} {first cap : Array Value} {va : Value → Array Value} {c : (List UInt8) → Bool}  (hH : Has E w [R]) (h_bx : CellsAt R bx 0 [(.func (.func fn) first cap)]) (hcl : Callable Tryd.prog fn) (hva : ∀ v, first ++ #[v] ++ cap = va v) (hcb : ∀ {w : World} (F_ : List Hp) (x_ : List UInt8), Has E w [R, F_] → Calls Tryd.prog fn (va (S x_)) w fun e w' => e = .returned (.bool (c x_)) ∧ Has E w' [R, F_]) :
    Calls Tryd.prog 106 #[(S x), (.pointer (some ⟨bx, 0, none⟩))] w fun e w' => e = .returned (.bool (notP c x)) ∧ Has E w' [R] := by
  refine c_enter (args := [(S x), (.pointer (some ⟨bx, 0, none⟩))]) Tryd.func106 rfl Tryd.ntmps106 (by simp) ?_
  refine wp_seq_k fun K1 hK1 => ?_
  refine c_region ?_
  refine s_op (o_assign (v := (.bool false)) rfl ?_)
  refine s_nil ?_
  refine t_norm (hK1 _ _ ?_)
  refine wp_seq_k fun K2 hK2 => ?_
  refine c_region ?_
  refine s_op (o_load1 (v := (.func (.func fn) first cap)) Tryd.underlying69 rfl rfl hH (seg_sub 0 rfl) h_bx ?_)
  refine s_op (o_move (v := (S x)) rfl ?_)
  refine s_op (o_callf (first := first) (captured := cap) (vs := va (S x)) hcl rfl ((argsG1 rfl).trans (hva _)) (hcb _ x hH.all1) ?_)
  rintro _ w5 ⟨rfl, hX3⟩
  refine ⟨_, rfl, ?_⟩
  have hH4 := hX3.of_all1
  refine s_op (o_not rfl ?_)
  refine s_op (o_assign (v := (.bool (!(c x)))) rfl ?_)
  refine s_nil ?_
  refine t_norm (hK2 _ _ ?_)
  refine wp_ret ?_
  refine c_ret1 Tryd.results106  (v := (.bool (!(c x)))) rfl ?_
  have q6 : (notP c x) = !(c x) := by rfl
  exact ⟨by rw [q6], hH4⟩
set_option maxHeartbeats 4000000 in
theorem alls_c {E w : World} {R : List Hp} {v_l : Value} {l : List (List UInt8)} {fn : FuncId} {first cap : Array Value} {va : Value → Array Value} {c : (List UInt8) → Bool}  (hH : Has E w [R]) (h_l : Sl R 1 v_l l.length (l.map sV)) (hcl : Callable Tryd.prog fn) (hva : ∀ v, first ++ #[v] ++ cap = va v) (hcb : ∀ {w : World} (F_ : List Hp) (x_ : List UInt8), Has E w [R, F_] → Calls Tryd.prog fn (va (S x_)) w fun e w' => e = .returned (.bool (c x_)) ∧ Has E w' [R, F_]) :
    Calls Tryd.prog 76 #[v_l, (.func (.func fn) first cap)] w fun e w' => e = .returned (.bool (l.all c)) ∧ Has E w' [R] := by
  refine c_enter (args := [v_l, (.func (.func fn) first cap)]) Tryd.func76 rfl Tryd.ntmps76 (by simp) ?_
  refine wp_seq_k fun K1 hK1 => ?_
  refine c_region ?_
  refine s_op (o_box (cs := #[(.func (.func fn) first cap)]) rfl rfl hH fun b2 w3 hH4 => ?_)
  refine s_op (o_assign (v := (.bool false)) rfl ?_)
  refine s_nil ?_
  refine t_norm (hK1 _ _ ?_)
  refine wp_seq_k fun K5 hK5 => ?_
  refine c_region ?_
  refine s_op (o_move (v := v_l) rfl ?_)
  refine s_op (o_makeFunc (vs := #[(.pointer (some ⟨b2, 0, none⟩))]) (cap1 rfl) ?_)
  refine s_op (o_callf (vs := #[v_l, (.func (.func 106) #[] #[(.pointer (some ⟨b2, 0, none⟩))])]) ca105 rfl (args2 rfl rfl) (scontainsf_c (l := l) (c := notP c) (va := fun v_ => #[v_, (.pointer (some ⟨b2, 0, none⟩))]) hH4.all (h_l.mono (seg_sub 1 rfl)) ca106 (fun _ => by simp) (fun F_ x_ h_ => Calls.frameF (all1s_c (x := x_) (c := c) (va := va) h_.all ((CellsAt.one rfl).mono (fun _ g_ => sub_l ((seg_sub 0 rfl) g_))) hcl hva (cb_mid (α := List UInt8) (va := fun x_ => va (S x_)) (A := fun x_ e_ => e_ = .returned (.bool (c x_))) hcb)))) ?_)
  rintro _ w8 ⟨rfl, hX6⟩
  refine ⟨_, rfl, ?_⟩
  have hH7 := hX6.of_all
  refine s_op (o_not rfl ?_)
  refine s_op (o_assign (v := (.bool (!(l.any (notP c))))) rfl ?_)
  refine s_nil ?_
  refine t_norm (hK5 _ _ ?_)
  refine wp_ret ?_
  refine c_ret1 Tryd.results76  (v := (.bool (!(l.any (notP c))))) rfl ?_
  have q9 : (l.all c) = !(l.any (notP c)) := by exact (any_notP c l).symm
  have hH10 : Has E w8 [R] := (hH7.front 1 rfl).first 1 rfl
  exact ⟨by rw [q9], hH10⟩
set_option maxHeartbeats 4000000 in
theorem vindexf_c {E w : World} {R : List Hp} {v_l : Value} {l : List (Bool × Bs)} {fn : FuncId} {first cap : Array Value} {va : Value → Array Value} {c : (Bool × Bs) → Bool}  (hH : Has E w [R]) (h_l : Sl R 2 v_l l.length (l.flatMap vlC)) (hcl : Callable Tryd.prog fn) (hva : ∀ v, first ++ #[v] ++ cap = va v) (hcb : ∀ {w : World} (F_ : List Hp) (x_ : Bool × Bs), Has E w [R, F_] → Calls Tryd.prog fn (va (.agg #[(.bool x_.1), (S x_.2)])) w fun e w' => e = .returned (.bool (c x_)) ∧ Has E w' [R, F_]) :
    Calls Tryd.prog 136 #[v_l, (.func (.func fn) first cap)] w fun e w' => e = .returned (.int .i64 (idxG c l)) ∧ Has E w' [R] := by
  have hn_ := h_l.le
  refine c_enter (args := [v_l, (.func (.func fn) first cap)]) Tryd.func136 rfl Tryd.ntmps136 (by simp) ?_
  refine wp_seq_k fun K1 hK1 => ?_
  refine c_region ?_
  refine s_op (o_assign (v := (.int .i64 0)) rfl ?_)
  refine s_nil ?_
  refine t_norm (hK1 _ _ ?_)
  refine wp_seq_k fun K2 hK2 => ?_
  refine wp_seq_k fun K3 hK3 => ?_
  refine c_region ?_
  refine s_op (o_move (v := v_l) rfl ?_)
  refine s_op (o_lenS Tryd.underlying33 rfl h_l ?_)
  refine s_op (o_move (v := (.int .i64 0)) rfl ?_)
  refine s_nil ?_
  refine t_norm (hK3 _ _ ?_)
  refine wp_block ?_
  let I5 : Nat → (Nat → Value) → World → Prop := fun n__ r__ w__ => ∃ (k : Nat), n__ = l.length - k ∧ Has E w__ [R] ∧ (k ≤ l.length) ∧ (∀ j, j < k → ∀ y, l[j]? = some y → c y = false) ∧ r__ 0 = v_l ∧ r__ 1 = (.func (.func fn) first cap) ∧ r__ 7 = (.int .i64 ((l.length : Nat) : Int)) ∧ r__ 8 = (.int .i64 (k : Int))
  refine c_loop I5 _ ⟨0, rfl, hH, Nat.zero_le _, fun j hj => by omega, rfl, rfl, rfl, rfl⟩ ?_
  rintro n_ r8 w6 ⟨k, rfl, hH7, hk, hf, e4_0, e4_1, e4_7, e4_8⟩
  refine wp_seq_k fun K9 hK9 => ?_
  refine c_region ?_
  refine s_op (o_lss (a := (k : Int)) (b := ((l.length : Nat) : Int)) e4_8 e4_7 ?_)
  refine s_nil ?_
  refine t_norm (hK9 _ _ ?_)
  refine wp_seq_k fun K10 hK10 => ?_
  refine c_cond rfl (fun h11 => ?_) (fun h11 => ?_)
  · -- (k : Int) < ((l.length : Nat) : Int)
    refine wp_skip ?_
    refine t_norm (hK10 _ _ ?_)
    refine wp_seq_k fun K12 hK12 => ?_
    refine wp_block ?_
    refine wp_seq_k fun K13 hK13 => ?_
    refine c_region ?_
    refine s_op (o_move (v := (.int .i64 (k : Int))) e4_8 ?_)
    refine s_op (o_assign (v := (.int .i64 (k : Int))) rfl ?_)
    refine s_nil ?_
    refine t_norm (hK13 _ _ ?_)
    refine wp_seq_k fun K14 hK14 => ?_
    refine c_region ?_
    refine s_op (o_move (v := (.func (.func fn) first cap)) e4_1 ?_)
    refine s_op (o_move (v := v_l) e4_0 ?_)
    refine s_op (o_move (v := (.int .i64 (k : Int))) rfl ?_)
    obtain ⟨x18, hx19⟩ : ∃ x_, l[((k : Int)).toNat]? = some x_ := get_some (by omega)
    refine s_op (o_indexF vlC_len Tryd.underlying33 ti29 rfl h_l rfl rfl (by omega) hx19 fun b15 o16 hc17 => ?_)
    refine s_op (o_loadN (cs := [(.bool x18.1), (S x18.2)]) Tryd.underlying29 rfl ti29 rfl hH7 (seg_sub 0 rfl) hc17 ?_)
    refine s_op (o_callf (first := first) (captured := cap) (vs := va (.agg #[(.bool x18.1), (S x18.2)])) hcl rfl ((argsG1 rfl).trans (hva _)) (hcb _ x18 hH7.all1) ?_)
    rintro _ w22 ⟨rfl, hX20⟩
    refine ⟨_, rfl, ?_⟩
    have hH21 := hX20.of_all1
    refine s_nil ?_
    refine t_norm (hK14 _ _ ?_)
    refine c_condb rfl (fun h23 => ?_) (fun h23 => ?_)
    · -- c x18
      refine wp_seq_k fun K24 hK24 => ?_
      refine c_region ?_
      refine s_op (o_move (v := (.int .i64 (k : Int))) rfl ?_)
      refine s_op (o_assign (v := (.int .i64 (k : Int))) rfl ?_)
      refine s_nil ?_
      refine t_norm (hK24 _ _ ?_)
      refine wp_ret ?_
      refine b_ret (t_ret (t_ret (b_ret (t_ret (c_ret1 Tryd.results136  (v := (.int .i64 (k : Int))) rfl ?_)))))
      have q25 : idxG c l = (k : Int) := by exact idxG_some hf (show l[k]? = some _ from hx19) h23
      exact ⟨by rw [q25], hH21⟩
    · -- not: c x18
      refine wp_skip ?_
      refine b_norm ?_
      refine t_norm (hK12 _ _ ?_)
      refine c_region ?_
      refine s_op (o_add (a := (k : Int)) (b := 1) e4_8 rfl (w64 (by omega) (by omega)) ?_)
      refine s_op (o_move (v := (.int .i64 ((k : Int) + 1))) rfl ?_)
      refine s_nil ?_
      refine t_norm ⟨l.length - (k + 1), _, rfl, ?_, ?_⟩
      · omega
      · exact ⟨(k + 1), rfl, hH21, (by omega), ((fun j hj y hy => by rcases Nat.lt_or_ge j k with g | g; exact hf j g y hy; obtain rfl : j = k := (by omega); have e_ := hy.symm.trans (show l[j]? = some _ from hx19); cases e_; exact h23)), e4_0, e4_1, e4_7, rfl⟩
  · -- not: (k : Int) < ((l.length : Nat) : Int)
    refine wp_exit ?_
    refine t_exit (t_exit (x_in (?_)))
    refine t_norm (hK2 _ _ ?_)
    refine wp_seq_k fun K26 hK26 => ?_
    refine c_region ?_
    refine s_op (o_assign (v := (.int .i64 (-1))) rfl ?_)
    refine s_nil ?_
    refine t_norm (hK26 _ _ ?_)
    refine wp_ret ?_
    refine c_ret1 Tryd.results136  (v := (.int .i64 (-1))) rfl ?_
    have q27 : idxG c l = -1 := by exact idxG_none fun j x hx => hf j (by have := (List.getElem?_eq_some_iff.1 hx).1; omega) x hx
    exact ⟨by rw [q27], hH7⟩
set_option maxHeartbeats 4000000 in
theorem vcontainsf_c {E w : World} {R : List Hp} {v_l : Value} {l : List (Bool × Bs)} {fn : FuncId} {first cap : Array Value} {va : Value → Array Value} {c : (Bool × Bs) → Bool}  (hH : Has E w [R]) (h_l : Sl R 2 v_l l.length (l.flatMap vlC)) (hcl : Callable Tryd.prog fn) (hva : ∀ v, first ++ #[v] ++ cap = va v) (hcb : ∀ {w : World} (F_ : List Hp) (x_ : Bool × Bs), Has E w [R, F_] → Calls Tryd.prog fn (va (.agg #[(.bool x_.1), (S x_.2)])) w fun e w' => e = .returned (.bool (c x_)) ∧ Has E w' [R, F_]) :
    Calls Tryd.prog 107 #[v_l, (.func (.func fn) first cap)] w fun e w' => e = .returned (.bool (l.any c)) ∧ Has E w' [R] := by
  refine c_enter (args := [v_l, (.func (.func fn) first cap)]) Tryd.func107 rfl Tryd.ntmps107 (by simp) ?_
  refine wp_seq_k fun K1 hK1 => ?_
  refine c_region ?_
  refine s_op (o_assign (v := (.bool false)) rfl ?_)
  refine s_nil ?_
  refine t_norm (hK1 _ _ ?_)
  refine wp_seq_k fun K2 hK2 => ?_
  refine c_region ?_
  refine s_op (o_move (v := v_l) rfl ?_)
  refine s_op (o_move (v := (.func (.func fn) first cap)) rfl ?_)
  refine s_op (o_callf (vs := #[v_l, (.func (.func fn) first cap)]) ca136 rfl (args2 rfl rfl) (vindexf_c (l := l) (c := c) (va := va) hH.all (h_l.mono (seg_sub 0 rfl)) hcl hva (cb_more (α := Bool × Bs) (R := R) (va := fun x_ => va (.agg #[(.bool x_.1), (S x_.2)])) (A := fun x_ e_ => e_ = .returned (.bool (c x_))) hcb)) ?_)
  rintro _ w5 ⟨rfl, hX3⟩
  refine ⟨_, rfl, ?_⟩
  have hH4 := hX3.of_all
  refine s_op (o_geq (a := idxG c l) (b := 0) rfl rfl ?_)
  refine s_op (o_assign (v := (.bool (decide (0 ≤ idxG c l)))) rfl ?_)
  refine s_nil ?_
  refine t_norm (hK2 _ _ ?_)
  refine wp_ret ?_
  refine c_ret1 Tryd.results107  (v := (.bool (decide (0 ≤ idxG c l)))) rfl ?_
  have q6 : l.any c = decide (0 ≤ idxG c l) := by exact idxG_any.symm
  exact ⟨by rw [q6], hH4⟩
set_option maxHeartbeats 4000000 in
theorem all1v_c {E w : World} {R : List Hp} {x : Bool × Bs} {bx : Nat}  {fn : FuncId} {first cap : Array Value} {va : Value → Array Value} {c : (Bool × Bs) → Bool}  (hH : Has E w [R]) (h_bx : CellsAt R bx 0 [(.func (.func fn) first cap)]) (hcl : Callable Tryd.prog fn) (hva : ∀ v, first ++ #[v] ++ cap = va v) (hcb : ∀ {w : World} (F_ : List Hp) (x_ : Bool × Bs), Has E w [R, F_] → Calls Tryd.prog fn (va (.agg #[(.bool x_.1), (S x_.2)])) w fun e w' => e = .returned (.bool (c x_)) ∧ Has E w' [R, F_]) :
    Calls Tryd.prog 108 #[(.agg #[(.bool x.1), (S x.2)]), (.pointer (some ⟨bx, 0, none⟩))] w fun e w' => e = .returned (.bool (notP c x)) ∧ Has E w' [R] := by
  refine c_enter (args := [(.agg #[(.bool x.1), (S x.2)]), (.pointer (some ⟨bx, 0, none⟩))]) Tryd.func108 rfl Tryd.ntmps108 (by simp) ?_
  refine wp_seq_k fun K1 hK1 => ?_
  refine c_region ?_
  refine s_op (o_box (cs := #[(.bool x.1), (S x.2)]) rfl rfl hH fun b2 w3 hH4 => ?_)
  refine s_op (o_assign (v := (.bool false)) rfl ?_)
  refine s_nil ?_
  refine t_norm (hK1 _ _ ?_)
  refine wp_seq_k fun K5 hK5 => ?_
  refine c_region ?_
  refine s_op (o_load1 (v := (.func (.func fn) first cap)) Tryd.underlying79 rfl rfl hH4 (seg_sub 1 rfl) h_bx ?_)
  refine s_op (o_loadN (cs := [(.bool x.1), (S x.2)]) Tryd.underlying29 rfl ti29 rfl hH4 (seg_sub 0 rfl) (CellsAt.one rfl) ?_)
  refine s_op (o_callf (first := first) (captured := cap) (vs := va (.agg #[(.bool x.1), (S x.2)])) hcl rfl ((argsG1 rfl).trans (hva _)) (hcb _ (x.1, x.2) (hH4.front 1 rfl).all1) ?_)
  rintro _ w8 ⟨rfl, hX6⟩
  refine ⟨_, rfl, ?_⟩
  have hH7 := hX6.of_all1
  refine s_op (o_not rfl ?_)
  refine s_op (o_assign (v := (.bool (!(c (x.1, x.2))))) rfl ?_)
  refine s_nil ?_
  refine t_norm (hK5 _ _ ?_)
  refine wp_ret ?_
  refine c_ret1 Tryd.results108  (v := (.bool (!(c (x.1, x.2))))) rfl ?_
  have q9 : (notP c x) = !(c (x.1, x.2)) := by rfl
  have hH10 : Has E w8 [R] := hH7.first 1 rfl
  exact ⟨by rw [q9], hH10⟩
set_option maxHeartbeats 4000000 in
theorem allv_c {E w : World} {R : List Hp} {v_l : Value} {l : List (Bool × Bs)} {fn : FuncId} {first cap : Array Value} {va : Value → Array Value} {c : (Bool × Bs) → Bool}  (hH : Has E w [R]) (h_l : Sl R 2 v_l l.length (l.flatMap vlC)) (hcl : Callable Tryd.prog fn) (hva : ∀ v, first ++ #[v] ++ cap = va v) (hcb : ∀ {w : World} (F_ : List Hp) (x_ : Bool × Bs), Has E w [R, F_] → Calls Tryd.prog fn (va (.agg #[(.bool x_.1), (S x_.2)])) w fun e w' => e = .returned (.bool (c x_)) ∧ Has E w' [R, F_]) :
    Calls Tryd.prog 78 #[v_l, (.func (.func fn) first cap)] w fun e w' => e = .returned (.bool (l.all c)) ∧ Has E w' [R] := by
  refine c_enter (args := [v_l, (.func (.func fn) first cap)]) Tryd.func78 rfl Tryd.ntmps78 (by simp) ?_
  refine wp_seq_k fun K1 hK1 => ?_
  refine c_region ?_
  refine s_op (o_box (cs := #[(.func (.func fn) first cap)]) rfl rfl hH fun b2 w3 hH4 => ?_)
  refine s_op (o_assign (v := (.bool false)) rfl ?_)
  refine s_nil ?_
  refine t_norm (hK1 _ _ ?_)
  refine wp_seq_k fun K5 hK5 => ?_
  refine c_region ?_
  refine s_op (o_move (v := v_l) rfl ?_)
  refine s_op (o_makeFunc (vs := #[(.pointer (some ⟨b2, 0, none⟩))]) (cap1 rfl) ?_)
  refine s_op (o_callf (vs := #[v_l, (.func (.func 108) #[] #[(.pointer (some ⟨b2, 0, none⟩))])]) ca107 rfl (args2 rfl rfl) (vcontainsf_c (l := l) (c := notP c) (va := fun v_ => #[v_, (.pointer (some ⟨b2, 0, none⟩))]) hH4.all (h_l.mono (seg_sub 1 rfl)) ca108 (fun _ => by simp) (fun F_ x_ h_ => Calls.frameF (all1v_c (x := x_) (c := c) (va := va) h_.all ((CellsAt.one rfl).mono (fun _ g_ => sub_l ((seg_sub 0 rfl) g_))) hcl hva (cb_mid (α := Bool × Bs) (va := fun x_ => va (.agg #[(.bool x_.1), (S x_.2)])) (A := fun x_ e_ => e_ = .returned (.bool (c x_))) hcb)))) ?_)
  rintro _ w8 ⟨rfl, hX6⟩
  refine ⟨_, rfl, ?_⟩
  have hH7 := hX6.of_all
  refine s_op (o_not rfl ?_)
  refine s_op (o_assign (v := (.bool (!(l.any (notP c))))) rfl ?_)
  refine s_nil ?_
  refine t_norm (hK5 _ _ ?_)
  refine wp_ret ?_
  refine c_ret1 Tryd.results78  (v := (.bool (!(l.any (notP c))))) rfl ?_
  have q9 : (l.all c) = !(l.any (notP c)) := by exact (any_notP c l).symm
  have hH10 : Has E w8 [R] := (hH7.front 1 rfl).first 1 rfl
  exact ⟨by rw [q9], hH10⟩
set_option maxHeartbeats 4000000 in
theorem key_c {E w : World} {R : List Hp} {v_l : Value} {l : List (List UInt8)}  (hH : Has E w [R]) (h_l : Sl R 1 v_l l.length (l.map sV)) :
    Calls Tryd.prog 39 #[v_l] w fun e w' => e = .returned (.bool (l.all keyR)) ∧ Has E w' [R] := by
  refine c_enter (args := [v_l]) Tryd.func39 rfl Tryd.ntmps39 (by simp) ?_
  refine wp_seq_k fun K1 hK1 => ?_
  refine c_region ?_
  refine s_op (o_assign (v := (.bool false)) rfl ?_)
  refine s_nil ?_
  refine t_norm (hK1 _ _ ?_)
  refine wp_seq_k fun K2 hK2 => ?_
  refine c_region ?_
  refine s_op (o_assign (v := (.func (.func 75) #[] #[])) rfl ?_)
  refine s_nil ?_
  refine t_norm (hK2 _ _ ?_)
  refine wp_seq_k fun K3 hK3 => ?_
  refine c_region ?_
  refine s_op (o_move (v := v_l) rfl ?_)
  refine s_op (o_move (v := (.func (.func 75) #[] #[])) rfl ?_)
  refine s_op (o_callf (vs := #[v_l, (.func (.func 75) #[] #[])]) ca76 rfl (args2 rfl rfl) (alls_c (l := l) (c := keyR) (va := fun v_ => #[v_]) hH.all (h_l.mono (seg_sub 0 rfl)) ca75 (fun _ => by simp) (fun F_ x_ h_ => Calls.frameF (keyf_c (k := x_) h_.all))) ?_)
  rintro _ w6 ⟨rfl, hX4⟩
  refine ⟨_, rfl, ?_⟩
  have hH5 := hX4.of_all
  refine s_op (o_assign (v := (.bool (l.all keyR))) rfl ?_)
  refine s_nil ?_
  refine t_norm (hK3 _ _ ?_)
  refine wp_ret ?_
  refine c_ret1 Tryd.results39  (v := (.bool (l.all keyR))) rfl ?_
  exact ⟨rfl, hH5⟩
set_option maxHeartbeats 4000000 in
theorem value_c {E w : World} {R : List Hp} {v_l : Value} {l : List (Bool × Bs)}  (hH : Has E w [R]) (h_l : Sl R 2 v_l l.length (l.flatMap vlC)) :
    Calls Tryd.prog 40 #[v_l] w fun e w' => e = .returned (.bool (l.all valR)) ∧ Has E w' [R] := by
  refine c_enter (args := [v_l]) Tryd.func40 rfl Tryd.ntmps40 (by simp) ?_
  refine wp_seq_k fun K1 hK1 => ?_
  refine c_region ?_
  refine s_op (o_assign (v := (.bool false)) rfl ?_)
  refine s_nil ?_
  refine t_norm (hK1 _ _ ?_)
  refine wp_seq_k fun K2 hK2 => ?_
  refine c_region ?_
  refine s_op (o_assign (v := (.func (.func 77) #[] #[])) rfl ?_)
  refine s_nil ?_
  refine t_norm (hK2 _ _ ?_)
  refine wp_seq_k fun K3 hK3 => ?_
  refine c_region ?_
  refine s_op (o_move (v := v_l) rfl ?_)
  refine s_op (o_move (v := (.func (.func 77) #[] #[])) rfl ?_)
  refine s_op (o_callf (vs := #[v_l, (.func (.func 77) #[] #[])]) ca78 rfl (args2 rfl rfl) (allv_c (l := l) (c := valR) (va := fun v_ => #[v_]) hH.all (h_l.mono (seg_sub 0 rfl)) ca77 (fun _ => by simp) (fun F_ x_ h_ => Calls.frameF (valf_c (v := x_) h_.all))) ?_)
  rintro _ w6 ⟨rfl, hX4⟩
  refine ⟨_, rfl, ?_⟩
  have hH5 := hX4.of_all
  refine s_op (o_assign (v := (.bool (l.all valR))) rfl ?_)
  refine s_nil ?_
  refine t_norm (hK3 _ _ ?_)
  refine wp_ret ?_
  refine c_ret1 Tryd.results40  (v := (.bool (l.all valR))) rfl ?_
  exact ⟨rfl, hH5⟩
set_option maxHeartbeats 4000000 in
theorem rhas_c {E w : World} {R : List Hp} {s : Bs}  (hH : Has E w [R]) :
    Calls Tryd.prog 38 #[(S s)] w fun e w' => e = .returned (.agg #[(.bool true), (S s)]) ∧ Has E w' [R] := by
  refine c_enter (args := [(S s)]) Tryd.func38 rfl Tryd.ntmps38 (by simp) ?_
  refine wp_seq_k fun K1 hK1 => ?_
  refine c_region ?_
  refine s_op (o_alloc (cs := #[(.bool false), (S ([] : List UInt8))]) ti29 rfl hH fun b2 w3 hH4 => ?_)
  refine s_nil ?_
  refine t_norm (hK1 _ _ ?_)
  refine wp_seq_k fun K5 hK5 => ?_
  refine c_region ?_
  refine s_op (o_move (v := (S s)) rfl ?_)
  refine s_op (o_sight (v := (.agg #[(.bool true), (S s)])) (fun _ => by kernel_rfl) ?_)
  refine s_eff (o_storeN (vs := [(.bool true), (S s)]) (c' := #[(.bool true), (S s)]) ti29 rfl rfl rfl rfl (by intro u hu; simp only [List.mem_cons, List.not_mem_nil, or_false] at hu; rcases hu with rfl | rfl <;> first | rfl) (by simp) (by kernel_rfl) (hH4.front 0 rfl) fun w6 hH7 => ?_)
  refine s_nil ?_
  refine t_norm (hK5 _ _ ?_)
  refine wp_ret ?_
  refine c_retC1 Tryd.results38 rfl (run_loadVarN (cs := [(.bool true), (S s)]) Tryd.underlying29 rfl ti29 hH7 (seg_sub 0 rfl) (CellsAt.one rfl)) ?_
  have hH8 : Has E w6 [R] := (hH7.front 1 rfl).first 1 rfl
  exact ⟨rfl, hH8⟩
end Go.Q
namespace Go.Q
section
variable {P : Program} {ρ : Operand → Value} {w : World} {K : Value → World → Prop} {dst : Option Tmp} {T : TypeId} {pos : String} {after : Array Edge} {g : Option (Nat × Bool)}
theorem o_sltP {t u : TypeId} {x y : Operand} {a b : Bs} (hx : ρ x = S a) (hy : ρ y = S b) (h : K (.bool (decide (a < b))) w) : OK P ⟨dst, .binOp .lss t x y u, T, pos, after, g⟩ ρ w K :=
  o_slss hx hy (by rw [Go.Proofs.bytesLess_eq]; exact h)
theorem o_sleP {t u : TypeId} {x y : Operand} {a b : Bs} (hx : ρ x = S a) (hy : ρ y = S b) (h : K (.bool (decide (¬ b < a))) w) : OK P ⟨dst, .binOp .leq t x y u, T, pos, after, g⟩ ρ w K :=
  o_sleq hx hy (by
    have e : (Op.bytesLess a b || a == b) = decide (¬ b < a) := by
      rw [Go.Proofs.bytesLess_eq, Bool.eq_iff_iff, Bool.or_eq_true, decide_eq_true_iff, decide_eq_true_iff, beq_iff_eq, List.not_lt, List.le_iff_lt_or_eq]
    rw [e]; exact h)
theorem o_sgtP {t u : TypeId} {x y : Operand} {a b : Bs} (hx : ρ x = S a) (hy : ρ y = S b) (h : K (.bool (decide (b < a))) w) : OK P ⟨dst, .binOp .gtr t x y u, T, pos, after, g⟩ ρ w K :=
  o_scmp (r := decide (b < a)) hx hy (by
    show (Op.stringOp .gtr _ _).run P w = _
    have e : (!(Op.bytesLess a b || a == b)) = decide (b < a) := by
      have : (Op.bytesLess a b || a == b) = decide (¬ b < a) := by
        rw [Go.Proofs.bytesLess_eq, Bool.eq_iff_iff, Bool.or_eq_true, decide_eq_true_iff, decide_eq_true_iff, beq_iff_eq, List.not_lt, List.le_iff_lt_or_eq]
      rw [this]; by_cases h : b < a <;> simp [h]
    simp only [Op.stringOp, bytes_toList]; rw [← e]; rfl) rfl h
theorem o_sgeP {t u : TypeId} {x y : Operand} {a b : Bs} (hx : ρ x = S a) (hy : ρ y = S b) (h : K (.bool (decide (¬ a < b))) w) : OK P ⟨dst, .binOp .geq t x y u, T, pos, after, g⟩ ρ w K :=
  o_scmp (r := decide (¬ a < b)) hx hy (by
    show (Op.stringOp .geq _ _).run P w = _
    have e : (!(Op.bytesLess a b)) = decide (¬ a < b) := by
      rw [Go.Proofs.bytesLess_eq]; by_cases h : a < b <;> simp [h]
    simp only [Op.stringOp, bytes_toList]; rw [← e]; rfl) rfl h
end
theorem bs_irr (x : Bs) : ¬ x < x := List.lt_irrefl x
theorem bs_tr {x y z : Bs} (h1 : x < y) (h2 : y < z) : x < z := List.lt_trans h1 h2
theorem bs_tri {x y : Bs} (h1 : ¬ x < y) (h2 : ¬ y < x) : x = y := by
  rcases List.le_iff_lt_or_eq.1 (List.not_lt.1 h1) with e | e
  · exact absurd e h2
  · exact e.symm
/-- what cmp.Compare answers -/
def cmpS (a b : Bs) : Int := if a < b then -1 else if b < a then 1 else 0
theorem cmpS_neg {a b : Bs} : cmpS a b < 0 ↔ a < b := by
  unfold cmpS; split
  · rename_i h; exact ⟨fun _ => h, fun _ => by decide⟩
  · rename_i h; split <;> exact ⟨fun g => absurd g (by decide), fun g => absurd g h⟩
theorem cmpS_zero {a b : Bs} : cmpS a b = 0 ↔ a = b := by
  unfold cmpS; split
  · rename_i h; exact ⟨fun g => absurd g (by decide), fun g => by subst g; exact absurd h (bs_irr a)⟩
  · rename_i h; split
    · rename_i h2; exact ⟨fun g => absurd g (by decide), fun g => by subst g; exact absurd h2 (bs_irr a)⟩
    · rename_i h2; exact ⟨fun _ => bs_tri h h2, fun _ => rfl⟩
end Go.Q
namespace Go.Q
open Go.MapKept
def lookN : List (Int × Value) → Int → Nat → Option (Nat × Value)
  | [], _, _ => none
  | (a, v) :: t, k, i => if k = a then some (i, v) else lookN t k (i + 1)
def ents (l : List (Int × Value)) : List (Value × Value) := l.map fun p => (.int .i64 p.1, p.2)
theorem findNow_int (k : Int) : ∀ (es : List MapEntry) (l : List (Int × Value)) (i : Nat), es.map (fun e => (e.key, e.val)) = ents l → Instr.findNow (.int .i64) (.int .i64 k) es i = some (lookN l k i)
  | [], [], i, _ => rfl
  | [], _ :: _, i, h => by simp [ents] at h
  | _ :: _, [], i, h => by simp [ents] at h
  | e :: es, (a, v) :: l, i, h => by
    simp only [ents, List.map_cons, List.cons.injEq, Prod.mk.injEq] at h
    obtain ⟨⟨h1, h2⟩, h3⟩ := h
    unfold Instr.findNow
    rw [h1]
    simp only [Instr.sameNow, if_true]
    by_cases g : k = a
    · subst g; simp [lookN, h2]
    · have : (k == a) = false := by simpa using g
      rw [this]
      simp only
      rw [findNow_int k es l (i + 1) h3]
      simp [lookN, g]
def getM (l : List (Int × Value)) (k : Int) : Option Value := (lookN l k 0).map (·.2)
theorem lookN_shift (l : List (Int × Value)) (k : Int) : ∀ i, lookN l k i = (lookN l k 0).map fun p => (p.1 + i, p.2) := by
  induction l with
  | nil => intro i; rfl
  | cons p t ih =>
    intro i
    obtain ⟨a, v⟩ := p
    simp only [lookN]
    split
    · simp
    · rw [ih (i + 1), ih 1]
      cases lookN t k 0 <;> simp; omega
theorem getM_cons (a : Int) (v : Value) (t : List (Int × Value)) (k : Int) : getM ((a, v) :: t) k = if k = a then some v else getM t k := by
  simp only [getM, lookN]
  split
  · rfl
  · rw [lookN_shift]; cases lookN t k 0 <;> rfl
def putM : List (Int × Value) → Int → Value → List (Int × Value)
  | [], k, v => [(k, v)]
  | (a, u) :: t, k, v => if k = a then (k, v) :: t else (a, u) :: putM t k v
theorem getM_put (k : Int) (v : Value) (k' : Int) : ∀ l, getM (putM l k v) k' = if k' = k then some v else getM l k'
  | [] => by rw [putM, getM_cons]
  | (a, u) :: t => by
    rw [putM]
    split
    · rename_i h; subst h; rw [getM_cons, getM_cons]; split <;> rfl
    · rename_i h
      rw [getM_cons, getM_cons, getM_put k v k' t]
      split
      · rename_i g; rw [if_neg (fun e => h (e.symm.trans g))]
      · rfl
theorem put_found (k : Int) (v : Value) : ∀ (l : List (Int × Value)) (i : Nat) (u : Value) (j : Nat), lookN l k j = some (i + j, u) → putM l k v = l.set i (k, v)
  | [], i, u, j, h => by cases h
  | (a, x) :: t, i, u, j, h => by
    rw [lookN] at h
    rw [putM]
    split at h
    · rename_i g
      obtain rfl : i = 0 := by simp at h; omega
      rw [if_pos g]; rfl
    · rename_i g
      rw [if_neg g]
      cases i with
      | zero =>
        exfalso
        rw [lookN_shift] at h
        cases hl : lookN t k 0 with
        | none => rw [hl] at h; cases h
        | some p => rw [hl] at h; simp at h; omega
      | succ i => rw [put_found k v t i u (j + 1) (by rw [h]; congr 2; omega)]; rfl
theorem put_none' (k : Int) (v : Value) : ∀ (l : List (Int × Value)) (j : Nat), lookN l k j = none → putM l k v = l ++ [(k, v)]
  | [], _, _ => rfl
  | (a, x) :: t, j, h => by
    rw [lookN] at h
    split at h
    · cases h
    · rename_i g; rw [putM, if_neg g, put_none' k v t (j + 1) h]; rfl
theorem lookN_get (k : Int) : ∀ (l : List (Int × Value)) (i : Nat) (u : Value) (j : Nat), lookN l k j = some (i + j, u) → l[i]? = some (k, u)
  | [], i, u, j, h => by cases h
  | (a, x) :: t, i, u, j, h => by
    rw [lookN] at h
    split at h
    · rename_i g
      obtain rfl : i = 0 := by simp at h; omega
      simp at h; simp [g, h]
    · rename_i g
      cases i with
      | zero =>
        exfalso
        rw [lookN_shift] at h
        cases hl : lookN t k 0 with
        | none => rw [hl] at h; cases h
        | some p => rw [hl] at h; simp at h; omega
      | succ i => simpa using lookN_get k t i u (j + 1) (by rw [h]; congr 2; omega)
theorem modify_map {β γ : Type} (f : β → β) (g : β → γ) (z : γ) (hz : ∀ e, g (f e) = z) : ∀ (l : List β) (i : Nat), (l.modify i f).map g = (l.map g).set i z
  | [], i => by simp
  | e :: t, 0 => by simp [hz]
  | e :: t, i + 1 => by simp [modify_map f g z hz t i]
theorem Has.setMap {E w : World} {ss : List (List Hp)} {b : Nat} {o o' : Obj} (H : Has E w ([Hp.one b o] :: ss)) : Has E { w with heap := w.heap.setIfInBounds b o' } ([Hp.one b o'] :: ss) := by
  have hwb : w.heap[b]? = some o := H.at (h := Hp.one b o) (by simp) (Hp.one_at _ _)
  have hlt : b < w.heap.size := (Array.getElem?_eq_some_iff.1 hwb).1
  refine Has0.write (an := [Hp.one b o]) (an' := [Hp.one b o']) (hs := ss.flatten) H rfl rfl rfl (by simp) ?_ ?_ ?_
  · intro k hk
    have hk := hk _ (List.mem_singleton.2 rfl)
    refine .inl fun h hh => ?_
    rw [List.mem_singleton.1 hh]
    unfold Hp.one at hk ⊢
    split at hk
    · cases hk
    · rw [if_neg (by assumption)]
  · intro h hh k o hk
    rw [List.mem_singleton.1 hh] at hk
    obtain ⟨rfl, rfl⟩ := Hp.one_some hk
    simp [hlt]
  · intro k _ hk
    have hk := hk _ (List.mem_singleton.2 rfl)
    have : k ≠ b := by rintro rfl; rw [Hp.one_at] at hk; cases hk
    simp [Array.getElem?_setIfInBounds, Ne.symm this]
section ops
variable {P : Program} {ρ : Operand → Value} {E w : World} {ss : List (List Hp)} {K : Value → World → Prop} {dst : Option Tmp} {T : TypeId} {pos : String} {after : Array Edge} {g : Option (Nat × Bool)}
theorem o_lookup {x y : Operand} {t kt et : TypeId} {b : Nat} {es : Array MapEntry} {c : Nat} {l : List (Int × Value)} {z : Value} {sz by_ : Nat} {k : Int} (ht : P.underlying t = some (.map kt et)) (hk : P.underlying kt = some (.int .i64)) (hz : TI P et z sz by_)
    (hx : ρ x = .map (some b)) (hy : ρ y = .int .i64 k) (H : Has E w ss) {L : List Hp} (hL : L ⊆ ss.flatten) (hb : ∃ h ∈ L, h b = some (.map es c)) (he : es.toList.map (fun e => (e.key, e.val)) = ents l) (hK : K ((getM l k).getD z) w) :
    OK P ⟨dst, .lookup t x y false, T, pos, after, g⟩ ρ w K := by
  obtain ⟨h, hh, hb⟩ := hb
  have hwb := H.at (hL hh) hb
  refine OK.val (run_v ?_) hK
  rw [hx, hy]
  have hf := run_findKey (P := P) (w := w) hk (findNow_int k es.toList l 0 he)
  obtain ⟨i, hi, hiz, _, _⟩ := hz
  have hc : (Instr.checkKey es.isEmpty 10000 kt (.int .i64 k)).run P w = .ok () w := run_checkKey hk (by simp [IsKey]) es.isEmpty 9999
  have hg : (getObj b).run P w = .ok (.map es c) w := by simp [getObj, Sem.run, hwb]
  cases hl : lookN l k 0 with
  | none => rw [hl] at hf; simp [Instr.lookup, run_underlying ht, hg, hf, hc, getM, hl, zeroValue, typeInfo, hi, hiz, Result.andThen]
  | some p => rw [hl] at hf; simp [Instr.lookup, run_underlying ht, hg, hf, hc, getM, hl, Result.andThen]
theorem run_stays {w : World} (a b : Int) (h : a = b) : (Instr.keyThatStays (.int .i64 a) (.int .i64 b)).run P w = .ok (.int .i64 b) w := by
  subst h; simp [Instr.keyThatStays, Instr.sameBits]
theorem o_mapUpdate {x y u : Operand} {t kt et : TypeId} {b : Nat} {es : Array MapEntry} {c : Nat} {l : List (Int × Value)} {v : Value} {k : Int} (ht : P.underlying t = some (.map kt et)) (hk : P.underlying kt = some (.int .i64))
    (hx : ρ x = .map (some b)) (hy : ρ y = .int .i64 k) (hu : ρ u = v) (H : Has E w ([Hp.one b (.map es c)] :: ss)) (he : es.toList.map (fun e => (e.key, e.val)) = ents l)
    (hK : ∀ es' c' w', es'.toList.map (fun e : MapEntry => (e.key, e.val)) = ents (putM l k v) → Has E w' ([Hp.one b (.map es' c')] :: ss) → K undef w') :
    OK P ⟨dst, .mapUpdate t x y u, T, pos, after, g⟩ ρ w K := by
  have hwb : w.heap[b]? = some (.map es c) := H.at (h := Hp.one b (.map es c)) (by simp) (Hp.one_at _ _)
  have hf := run_findKey (P := P) (w := w) hk (findNow_int k es.toList l 0 he)
  have hc : (Instr.checkKey false 10000 kt (.int .i64 k)).run P w = .ok () w := run_checkKey hk (by simp [IsKey]) false 9999
  have hg : (getObj b).run P w = .ok (.map es c) w := by simp [getObj, Sem.run, hwb]
  have hs : ∀ o, (setObj b o).run P w = .ok () { w with heap := w.heap.setIfInBounds b o } := fun o => run_setObj_map o hwb
  cases hl : lookN l k 0 with
  | none =>
    rw [hl] at hf
    refine OK.skip (w' := { w with heap := w.heap.setIfInBounds b (.map (es.push ⟨.int .i64 k, v, c⟩) (c + 1)) }) (run_u ?_) (hK _ _ _ ?_ H.setMap)
    · rw [hx, hy, hu]; simp [Instr.mapUpdate, run_underlying ht, hg, hf, hc, hs, Result.andThen]
    · rw [put_none' k v l 0 hl]; simp [he, ents]
  | some p =>
    obtain ⟨i, v0⟩ := p
    rw [hl] at hf
    have hi := lookN_get k l i v0 0 hl
    have hes : ∃ e, es[i]? = some e ∧ e.key = .int .i64 k := by
      have h1 : (es.toList.map (fun e : MapEntry => (e.key, e.val)))[i]? = some (.int .i64 k, v0) := by rw [he, ents, List.getElem?_map, hi]; rfl
      rw [List.getElem?_map, Option.map_eq_some_iff] at h1
      obtain ⟨e, h2, h3⟩ := h1
      exact ⟨e, by simpa using h2, congrArg Prod.fst h3⟩
    obtain ⟨e, h2, h3⟩ := hes
    refine OK.skip (w' := { w with heap := w.heap.setIfInBounds b (.map (es.modify i fun e => { e with key := .int .i64 k, val := v }) c) }) (run_u ?_) (hK _ _ _ ?_ H.setMap)
    · rw [hx, hy, hu]; simp [Instr.mapUpdate, run_underlying ht, hg, hf, hc, hs, Result.andThen, h2, h3, run_stays]
    · rw [put_found k v l i v0 0 hl, Array.toList_modify, modify_map (fun e : MapEntry => { e with key := .int .i64 k, val := v }) (fun e : MapEntry => (e.key, e.val)) (Value.int .i64 k, v) (fun _ => rfl), he, ents, ents, List.map_set]
end ops
end Go.Q
namespace Go.Q
open Go.MapKept
section
variable {κ β : Type} [DecidableEq κ]
def lookB : List (κ × β) → κ → Nat → Option (Nat × β)
  | [], _, _ => none
  | (a, v) :: t, k, i => if k = a then some (i, v) else lookB t k (i + 1)
def getB : List (κ × β) → κ → Option β
  | [], _ => none
  | (a, v) :: t, k => if k = a then some v else getB t k
def putB : List (κ × β) → κ → β → List (κ × β)
  | [], k, v => [(k, v)]
  | (a, u) :: t, k, v => if k = a then (k, v) :: t else (a, u) :: putB t k v
def delB : List (κ × β) → κ → List (κ × β)
  | [], _ => []
  | (a, u) :: t, k => if k = a then t else (a, u) :: delB t k
theorem lookB_shift (k : κ) : ∀ (l : List (κ × β)) (i : Nat), lookB l k i = (lookB l k 0).map fun p => (p.1 + i, p.2)
  | [], _ => rfl
  | (a, v) :: t, i => by
    simp only [lookB]
    split
    · simp
    · rw [lookB_shift k t (i + 1), lookB_shift k t 1]
      cases lookB t k 0 <;> simp; omega
theorem lookB_val (k : κ) : ∀ (l : List (κ × β)) (i : Nat), (lookB l k i).map (·.2) = getB l k
  | [], _ => rfl
  | (a, v) :: t, i => by
    simp only [lookB, getB]
    split
    · rfl
    · exact lookB_val k t (i + 1)
theorem lookB_cons {a k : κ} {u v : β} {t : List (κ × β)} {i : Nat} (hne : k ≠ a) (h : lookB ((a, u) :: t) k 0 = some (i, v)) : ∃ j, i = j + 1 ∧ lookB t k 0 = some (j, v) := by
  rw [lookB, if_neg hne, lookB_shift] at h
  cases hl : lookB t k 0 with
  | none => rw [hl] at h; cases h
  | some p =>
    rw [hl] at h
    obtain ⟨j, x⟩ := p
    simp only [Option.map_some, Option.some.injEq, Prod.mk.injEq] at h
    exact ⟨j, by omega, by rw [h.2]⟩
theorem lookB_get (k : κ) : ∀ (l : List (κ × β)) (i : Nat) (v : β), lookB l k 0 = some (i, v) → l[i]? = some (k, v)
  | [], _, _, h => by cases h
  | (a, u) :: t, i, v, h => by
    by_cases g : k = a
    · rw [lookB, if_pos g] at h
      simp only [Option.some.injEq, Prod.mk.injEq] at h
      obtain ⟨rfl, rfl⟩ := h; subst g; rfl
    · obtain ⟨j, rfl, h'⟩ := lookB_cons g h
      simpa using lookB_get k t j v h'
theorem putB_at (k : κ) (v : β) : ∀ (l : List (κ × β)) (i : Nat) (u : β), lookB l k 0 = some (i, u) → putB l k v = l.set i (k, v)
  | [], _, _, h => by cases h
  | (a, x) :: t, i, u, h => by
    rw [putB]
    by_cases g : k = a
    · rw [lookB, if_pos g] at h
      simp only [Option.some.injEq, Prod.mk.injEq] at h
      obtain ⟨rfl, rfl⟩ := h; rw [if_pos g]; rfl
    · obtain ⟨j, rfl, h'⟩ := lookB_cons g h
      rw [if_neg g, putB_at k v t j u h']; rfl
theorem putB_new (k : κ) (v : β) : ∀ (l : List (κ × β)) (i : Nat), lookB l k i = none → putB l k v = l ++ [(k, v)]
  | [], _, _ => rfl
  | (a, x) :: t, i, h => by
    rw [lookB] at h
    split at h
    · cases h
    · rename_i g; rw [putB, if_neg g, putB_new k v t (i + 1) h]; rfl
theorem delB_at (k : κ) : ∀ (l : List (κ × β)) (i : Nat) (u : β), lookB l k 0 = some (i, u) → delB l k = l.eraseIdx i
  | [], _, _, h => by cases h
  | (a, x) :: t, i, u, h => by
    rw [delB]
    by_cases g : k = a
    · rw [lookB, if_pos g] at h
      simp only [Option.some.injEq, Prod.mk.injEq] at h
      obtain ⟨rfl, rfl⟩ := h; rw [if_pos g]; rfl
    · obtain ⟨j, rfl, h'⟩ := lookB_cons g h
      rw [if_neg g, delB_at k t j u h']; rfl
theorem delB_none (k : κ) : ∀ (l : List (κ × β)) (i : Nat), lookB l k i = none → delB l k = l
  | [], _, _ => rfl
  | (a, x) :: t, i, h => by
    rw [lookB] at h
    split at h
    · cases h
    · rename_i g; rw [delB, if_neg g, delB_none k t (i + 1) h]
theorem getB_put (k : κ) (v : β) (k' : κ) : ∀ l : List (κ × β), getB (putB l k v) k' = if k' = k then some v else getB l k'
  | [] => by simp [putB, getB]
  | (a, u) :: t => by
    rw [putB]
    split
    · rename_i h; subst h; simp only [getB]; split <;> rfl
    · rename_i h
      simp only [getB]; rw [getB_put k v k' t]
      split
      · rename_i g; rw [if_neg (fun e => h (e.symm.trans g))]
      · rfl
theorem getB_mem {k : κ} : ∀ {l : List (κ × β)}, (getB l k).isSome = true ↔ k ∈ l.map (·.1)
  | [] => by simp [getB]
  | (a, u) :: t => by
    rw [getB, List.map_cons, List.mem_cons]
    split
    · simp [*]
    · rw [getB_mem]; simp [*]
theorem getB_none {k : κ} {l : List (κ × β)} (h : k ∉ l.map (·.1)) : getB l k = none := by
  cases e : getB l k with
  | none => rfl
  | some v => exact absurd (getB_mem.1 (by rw [e]; rfl)) h
theorem getB_del (k k' : κ) : ∀ l : List (κ × β), (l.map (·.1)).Nodup → getB (delB l k) k' = if k' = k then none else getB l k'
  | [], _ => by simp [delB, getB]
  | (a, u) :: t, hn => by
    have h2 := List.nodup_cons.1 hn
    rw [delB]
    split
    · rename_i h
      subst h
      simp only [getB]
      split
      · rename_i g; subst g; exact getB_none h2.1
      · rfl
    · rename_i h
      simp only [getB]; rw [getB_del k k' t h2.2]
      split
      · rename_i g; rw [if_neg (fun e => h (e.symm.trans g))]
      · rfl
theorem putB_keys (k : κ) (v : β) : ∀ l : List (κ × β), (putB l k v).map (·.1) = if k ∈ l.map (·.1) then l.map (·.1) else l.map (·.1) ++ [k]
  | [] => by simp [putB]
  | (a, u) :: t => by
    rw [putB]
    split
    · rename_i h; subst h; simp
    · rename_i h
      rw [List.map_cons, putB_keys k v t]
      simp only [List.map_cons, List.mem_cons, h, false_or]
      split <;> simp
theorem delB_sub (k : κ) : ∀ l : List (κ × β), (delB l k).Sublist l
  | [] => .slnil
  | (a, u) :: t => by
    rw [delB]
    split
    · exact List.sublist_cons_self _ _
    · exact (delB_sub k t).cons_cons _
end
/-- Keys of this type are told apart at once. -/
structure KeyAt {κ : Type} [DecidableEq κ] (P : Program) (kt : TypeId) (g : κ → Value) : Prop where
  inj : ∀ a b, g a = g b → a = b
  now : ∃ d, P.underlying kt = some d ∧ (∀ a, IsKey d (g a)) ∧ ∀ a b, Instr.sameNow d (g a) (g b) = some (decide (a = b))
  bits : ∀ a, Instr.sameBits 10000 (g a) (g a) = true
section
variable {κ β : Type}
/-- The entries of a map. -/
def MapV (g : κ → Value) (f : β → Value) (es : Array MapEntry) (c : Nat) (l : List (κ × β)) : Prop := es.toList.map (fun e : MapEntry => (e.key, e.val)) = l.map (fun p => (g p.1, f p.2)) ∧ Stamped es c
theorem MapV.nil {g : κ → Value} {f : β → Value} : MapV g f #[] 0 [] := ⟨rfl, stamped_empty 0⟩
theorem MapV.empty {g : κ → Value} {f : β → Value} (c : Nat) : MapV g f #[] c [] := ⟨rfl, stamped_empty c⟩
theorem MapV.keys {g : κ → Value} {f : β → Value} {es : Array MapEntry} {c : Nat} {l : List (κ × β)} (h : MapV g f es c l) : es.toList.map (·.key) = l.map (fun p => g p.1) := by
  have := congrArg (List.map (·.1)) h.1
  simpa [List.map_map, Function.comp_def] using this
theorem MapV.nodup {g : κ → Value} {f : β → Value} {es : Array MapEntry} {c : Nat} {l : List (κ × β)} (h : MapV g f es c l) : (l.map (·.1)).Nodup := by
  have h1 := h.2.2.2
  rw [h.keys] at h1
  refine List.pairwise_map.2 ((List.pairwise_map.1 h1).imp fun hne e => hne (by rw [e]))
theorem MapV.size {g : κ → Value} {f : β → Value} {es : Array MapEntry} {c : Nat} {l : List (κ × β)} (h : MapV g f es c l) : es.size = l.length := by
  have := congrArg List.length h.1; simpa using this
end
section
variable {κ β : Type} [DecidableEq κ]
theorem findNow_key {g : κ → Value} {f : β → Value} {d : TypeDesc} (hd : ∀ a b, Instr.sameNow d (g a) (g b) = some (decide (a = b))) (k : κ) : ∀ (es : List MapEntry) (l : List (κ × β)) (i : Nat), es.map (fun e : MapEntry => (e.key, e.val)) = l.map (fun p => (g p.1, f p.2)) →
    Instr.findNow d (g k) es i = some ((lookB l k i).map fun p => (p.1, f p.2))
  | [], [], i, _ => rfl
  | [], _ :: _, i, h => by simp at h
  | _ :: _, [], i, h => by simp at h
  | e :: es, (a, v) :: l, i, h => by
    simp only [List.map_cons, List.cons.injEq, Prod.mk.injEq] at h
    obtain ⟨⟨h1, h2⟩, h3⟩ := h
    unfold Instr.findNow
    rw [h1, hd]
    by_cases e : k = a
    · rw [decide_eq_true e]; simp [lookB, e, h2]
    · rw [decide_eq_false e]; simp only
      rw [findNow_key hd k es l (i + 1) h3]; simp [lookB, e]
end
theorem map_eraseB {α γ : Type} (f : α → γ) : ∀ (l : List α) (i : Nat), (l.eraseIdx i).map f = (l.map f).eraseIdx i
  | [], _ => rfl
  | _ :: _, 0 => rfl
  | x :: l, i + 1 => by rw [List.eraseIdx_cons_succ, List.map_cons, List.map_cons, List.eraseIdx_cons_succ, map_eraseB f l i]
def valB {β : Type} (f : β → Value) (z : Value) : Option β → Value
  | some v => f v
  | none => z
section ops
variable {P : Program} {ρ : Operand → Value} {E w : World} {ss : List (List Hp)} {K : Value → World → Prop} {dst : Option Tmp} {T : TypeId} {pos : String} {after : Array Edge} {g : Option (Nat × Bool)}
variable {κ β : Type} [DecidableEq κ] {gk : κ → Value} {f : β → Value}
theorem o_lookupB {x y : Operand} {t kt et : TypeId} {b : Nat} {es : Array MapEntry} {c : Nat} {l : List (κ × β)} {z : Value} {sz by_ : Nat} {k : κ} {ok : Bool} (ht : P.underlying t = some (.map kt et)) (hk : KeyAt P kt gk) (hz : TI P et z sz by_)
    (hx : ρ x = .map (some b)) (hy : ρ y = gk k) (H : Has E w ss) {L : List Hp} (hL : L ⊆ ss.flatten) (hb : L = [Hp.one b (.map es c)]) (he : MapV gk f es c l)
    (hK : K (if ok then .tuple #[valB f z (getB l k), .bool (getB l k).isSome] else valB f z (getB l k)) w) :
    OK P ⟨dst, .lookup t x y ok, T, pos, after, g⟩ ρ w K := by
  have hwb := H.at (hL (by rw [hb]; exact List.mem_singleton.2 rfl)) (Hp.one_at b (.map es c))
  obtain ⟨d, hd, hik, hnow⟩ := hk.now
  refine OK.val (run_v ?_) hK
  rw [hx, hy]
  have hf := run_findKey (P := P) (w := w) hd (findNow_key (f := f) hnow k es.toList l 0 he.1)
  obtain ⟨i, hi, hiz, _, _⟩ := hz
  have hc : (Instr.checkKey es.isEmpty 10000 kt (gk k)).run P w = .ok () w := run_checkKey hd (hik k) es.isEmpty 9999
  have hg : (getObj b).run P w = .ok (.map es c) w := by simp [getObj, Sem.run, hwb]
  have hv := lookB_val (β := β) k l 0
  cases hl : lookB l k 0 with
  | none =>
    rw [hl] at hf hv
    have hv : getB l k = none := hv.symm
    rw [hv]
    cases ok <;> simp [Instr.lookup, run_underlying ht, hg, hf, hc, zeroValue, typeInfo, hi, hiz, Result.andThen, valB]
  | some p =>
    rw [hl] at hf hv
    have hv : getB l k = some p.2 := hv.symm
    rw [hv]
    cases ok <;> simp [Instr.lookup, run_underlying ht, hg, hf, hc, Result.andThen, valB]
theorem o_lookupNil {x y : Operand} {t kt et : TypeId} {z : Value} {sz by_ : Nat} {k : κ} {ok : Bool} (ht : P.underlying t = some (.map kt et)) (hk : KeyAt P kt gk) (hz : TI P et z sz by_)
    (hx : ρ x = .map none) (hy : ρ y = gk k) (hK : K (if ok then .tuple #[z, .bool false] else z) w) : OK P ⟨dst, .lookup t x y ok, T, pos, after, g⟩ ρ w K := by
  obtain ⟨d, hd, hik, hnow⟩ := hk.now
  refine OK.val (run_v ?_) hK
  rw [hx, hy]
  have hf := run_findKey (P := P) (w := w) hd (l := []) (k := gk k) (a := none) rfl
  obtain ⟨i, hi, hiz, _, _⟩ := hz
  have hc : (Instr.checkKey true 10000 kt (gk k)).run P w = .ok () w := run_checkKey hd (hik k) true 9999
  cases ok <;> simp [Instr.lookup, run_underlying ht, hf, hc, zeroValue, typeInfo, hi, hiz, Result.andThen]
theorem o_mapUpdateB {x y u : Operand} {t kt et : TypeId} {b : Nat} {es : Array MapEntry} {c : Nat} {l : List (κ × β)} {v : β} {k : κ} (ht : P.underlying t = some (.map kt et)) (hk : KeyAt P kt gk)
    (hx : ρ x = .map (some b)) (hy : ρ y = gk k) (hu : ρ u = f v) (H : Has E w ([Hp.one b (.map es c)] :: ss)) (he : MapV gk f es c l)
    (hK : ∀ es' c' w', MapV gk f es' c' (putB l k v) → Has E w' ([Hp.one b (.map es' c')] :: ss) → K undef w') :
    OK P ⟨dst, .mapUpdate t x y u, T, pos, after, g⟩ ρ w K := by
  have hwb : w.heap[b]? = some (.map es c) := H.at (h := Hp.one b (.map es c)) (by simp) (Hp.one_at _ _)
  obtain ⟨d, hd, hik, hnow⟩ := hk.now
  have hf := run_findKey (P := P) (w := w) hd (findNow_key (f := f) hnow k es.toList l 0 he.1)
  have hc : (Instr.checkKey false 10000 kt (gk k)).run P w = .ok () w := run_checkKey hd (hik k) false 9999
  have hg : (getObj b).run P w = .ok (.map es c) w := by simp [getObj, Sem.run, hwb]
  have hs : ∀ o, (setObj b o).run P w = .ok () { w with heap := w.heap.setIfInBounds b o } := fun o => run_setObj_map o hwb
  cases hl : lookB l k 0 with
  | none =>
    rw [hl] at hf
    refine OK.skip (w' := { w with heap := w.heap.setIfInBounds b (.map (es.push ⟨gk k, f v, c⟩) (c + 1)) }) (run_u ?_) (hK _ _ _ ⟨?_, stamped_push he.2 ?_⟩ H.setMap)
    · rw [hx, hy, hu]; simp [Instr.mapUpdate, run_underlying ht, hg, hf, hc, hs, Result.andThen]
    · rw [putB_new k v l 0 hl]; simp [he.1]
    · intro x hx e
      have h1 : x.key ∈ es.toList.map (·.key) := List.mem_map.2 ⟨x, hx, rfl⟩
      rw [he.keys, e] at h1
      obtain ⟨p, hp, hpe⟩ := List.mem_map.1 h1
      have hpk := hk.inj _ _ hpe
      have h2 := (getB_mem (k := k) (l := l)).2 (List.mem_map.2 ⟨p, hp, hpk⟩)
      rw [← lookB_val k l 0, hl] at h2; cases h2
  | some p =>
    obtain ⟨i, v0⟩ := p
    rw [hl] at hf
    have hi := lookB_get k l i v0 hl
    have hes : ∃ e, es[i]? = some e ∧ e.key = gk k := by
      have h1 : (es.toList.map (fun e : MapEntry => (e.key, e.val)))[i]? = some (gk k, f v0) := by rw [he.1, List.getElem?_map, hi]; rfl
      rw [List.getElem?_map, Option.map_eq_some_iff] at h1
      obtain ⟨e, h2, h3⟩ := h1
      exact ⟨e, by simpa using h2, congrArg Prod.fst h3⟩
    obtain ⟨e, h2, h3⟩ := hes
    have hst : (Instr.keyThatStays (gk k) (gk k)).run P w = .ok (gk k) w := by simp [Instr.keyThatStays, hk.bits k]
    refine OK.skip (w' := { w with heap := w.heap.setIfInBounds b (.map (es.modify i fun e => { e with key := gk k, val := f v }) c) }) (run_u ?_) (hK _ _ _ ⟨?_, stamped_modify he.2 i (fun e => { e with key := gk k, val := f v }) (fun _ _ => rfl) (fun e' _ h => ?_)⟩ H.setMap)
    · rw [hx, hy, hu]; simp [Instr.mapUpdate, run_underlying ht, hg, hf, hc, hs, Result.andThen, h2, h3, hst]
    · rw [putB_at k v l i v0 hl, Array.toList_modify, modify_map (fun e : MapEntry => { e with key := gk k, val := f v }) (fun e : MapEntry => (e.key, e.val)) (gk k, f v) (fun _ => rfl), he.1, List.map_set]
    · rw [h2] at h; cases h; exact h3.symm
theorem o_delete {x y : Operand} {t kt et t2 : TypeId} {b : Nat} {es : Array MapEntry} {c : Nat} {l : List (κ × β)} {k : κ} (ht : P.underlying t = some (.map kt et)) (hk : KeyAt P kt gk)
    (hx : ρ x = .map (some b)) (hy : ρ y = gk k) (H : Has E w ([Hp.one b (.map es c)] :: ss)) (he : MapV gk f es c l)
    (hK : ∀ es' c' w', MapV gk f es' c' (delB l k) → Has E w' ([Hp.one b (.map es' c')] :: ss) → K (.tuple #[]) w') :
    OK P ⟨dst, .call ⟨.builtin .delete, #[x, y], #[t, t2]⟩, T, pos, after, g⟩ ρ w K := by
  have hwb : w.heap[b]? = some (.map es c) := H.at (h := Hp.one b (.map es c)) (by simp) (Hp.one_at _ _)
  obtain ⟨d, hd, hik, hnow⟩ := hk.now
  have hf := run_findKey (P := P) (w := w) hd (findNow_key (f := f) hnow k es.toList l 0 he.1)
  have hc : (Instr.checkKey es.isEmpty 10000 kt (gk k)).run P w = .ok () w := run_checkKey hd (hik k) es.isEmpty 9999
  have hg : (getObj b).run P w = .ok (.map es c) w := by simp [getObj, Sem.run, hwb]
  have hs : ∀ o, (setObj b o).run P w = .ok () { w with heap := w.heap.setIfInBounds b o } := fun o => run_setObj_map o hwb
  cases hl : lookB l k 0 with
  | none =>
    rw [hl] at hf
    refine o_call_builtin (v := .tuple #[]) (w' := { w with heap := w.heap.setIfInBounds b (.map es c) }) ?_ (hK _ _ _ (by rw [delB_none k l 0 hl]; exact he) H.setMap)
    simp [hx, hy, builtin, Builtin.delete_, run_underlying ht, hg, hf, hc, hs, Result.andThen]
  | some p =>
    obtain ⟨i, v0⟩ := p
    rw [hl] at hf
    have hi := lookB_get k l i v0 hl
    have hlt : i < es.size := by rw [he.size]; exact (List.getElem?_eq_some_iff.1 hi).1
    refine o_call_builtin (v := .tuple #[]) (w' := { w with heap := w.heap.setIfInBounds b (.map (es.eraseIdxIfInBounds i) c) }) ?_ (hK _ _ _ ⟨?_, stamped_erase he.2 i⟩ H.setMap)
    · simp [hx, hy, builtin, Builtin.delete_, run_underlying ht, hg, hf, hc, hs, Result.andThen]
    · rw [delB_at k l i v0 hl, map_eraseB, ← he.1]
      unfold Array.eraseIdxIfInBounds
      rw [dif_pos hlt, Array.toList_eraseIdx, map_eraseB]
end ops
section ops
variable {P : Program} {ρ : Operand → Value} {E w : World} {ss : List (List Hp)} {K : Value → World → Prop} {dst : Option Tmp} {T : TypeId} {pos : String} {after : Array Edge} {g : Option (Nat × Bool)}
variable {κ β : Type} {gk : κ → Value} {f : β → Value}
theorem o_clearMap {x : Operand} {t kt et : TypeId} {b : Nat} {es : Array MapEntry} {c : Nat} {l : List (κ × β)} (ht : P.underlying t = some (.map kt et))
    (hx : ρ x = .map (some b)) (H : Has E w ([Hp.one b (.map es c)] :: ss)) (he : MapV gk f es c l)
    (hK : ∀ es' c' w', MapV gk f es' c' ([] : List (κ × β)) → Has E w' ([Hp.one b (.map es' c')] :: ss) → K (.tuple #[]) w') :
    OK P ⟨dst, .call ⟨.builtin .clear, #[x], #[t]⟩, T, pos, after, g⟩ ρ w K := by
  have hwb : w.heap[b]? = some (.map es c) := H.at (h := Hp.one b (.map es c)) (by simp) (Hp.one_at _ _)
  have hg : (getObj b).run P w = .ok (.map es c) w := by simp [getObj, Sem.run, hwb]
  have hs : ∀ o, (setObj b o).run P w = .ok () { w with heap := w.heap.setIfInBounds b o } := fun o => run_setObj_map o hwb
  refine o_call_builtin (v := .tuple #[]) (w' := { w with heap := w.heap.setIfInBounds b (.map #[] c) }) ?_ (hK _ _ _ (MapV.empty c) H.setMap)
  simp [hx, builtin, Builtin.clear_, run_underlying ht, hg, hs, Result.andThen]
theorem o_lenMap {x : Operand} {t kt et : TypeId} {b : Nat} {es : Array MapEntry} {c : Nat} {l : List (κ × β)} (ht : P.underlying t = some (.map kt et))
    (hx : ρ x = .map (some b)) (H : Has E w ss) {L : List Hp} (hL : L ⊆ ss.flatten) (hb : L = [Hp.one b (.map es c)]) (he : MapV gk f es c l) (hK : K (.int .i64 l.length) w) :
    OK P ⟨dst, .call ⟨.builtin .len, #[x], #[t]⟩, T, pos, after, g⟩ ρ w K := by
  have hwb := H.at (hL (by rw [hb]; exact List.mem_singleton.2 rfl)) (Hp.one_at b (.map es c))
  have hg : (getObj b).run P w = .ok (.map es c) w := by simp [getObj, Sem.run, hwb]
  refine o_call_builtin (w' := w) ?_ hK
  simp [hx, builtin, Builtin.len_, run_underlying ht, hg, Result.andThen, goInt, he.size]
end ops
section ops
variable {P : Program} {ρ : Operand → Value} {E w : World} {ss : List (List Hp)} {K : Value → World → Prop} {dst : Option Tmp} {T : TypeId} {pos : String} {after : Array Edge} {g : Option (Nat × Bool)}
variable {κ : Type} [DecidableEq κ] {gk : κ → Value}
theorem valB_S (o : Option (List UInt8)) : valB sV (S []) o = S (o.getD []) := by cases o <;> rfl
theorem o_lookupSk {x y : Operand} {t kt et : TypeId} {b : Nat} {es : Array MapEntry} {c : Nat} {l : List (κ × List UInt8)} {sz by_ : Nat} {k : κ} (ht : P.underlying t = some (.map kt et)) (hk : KeyAt P kt gk) (hz : TI P et (S []) sz by_)
    (hx : ρ x = .map (some b)) (hy : ρ y = gk k) (H : Has E w ss) {L : List Hp} (hL : L ⊆ ss.flatten) (hb : L = [Hp.one b (.map es c)]) (he : MapV gk sV es c l)
    (hK : K (.tuple #[S ((getB l k).getD []), .bool (getB l k).isSome]) w) : OK P ⟨dst, .lookup t x y true, T, pos, after, g⟩ ρ w K :=
  o_lookupB (f := sV) ht hk hz hx hy H hL hb he (by rw [if_pos rfl, valB_S]; exact hK)
theorem o_lookupS {x y : Operand} {t kt et : TypeId} {b : Nat} {es : Array MapEntry} {c : Nat} {l : List (κ × List UInt8)} {sz by_ : Nat} {k : κ} (ht : P.underlying t = some (.map kt et)) (hk : KeyAt P kt gk) (hz : TI P et (S []) sz by_)
    (hx : ρ x = .map (some b)) (hy : ρ y = gk k) (H : Has E w ss) {L : List Hp} (hL : L ⊆ ss.flatten) (hb : L = [Hp.one b (.map es c)]) (he : MapV gk sV es c l)
    (hK : K (S ((getB l k).getD [])) w) : OK P ⟨dst, .lookup t x y false, T, pos, after, g⟩ ρ w K :=
  o_lookupB (f := sV) ht hk hz hx hy H hL hb he (by rw [if_neg (by decide), valB_S]; exact hK)
end ops
theorem key_int {P : Program} {kt : TypeId} (h : P.underlying kt = some (.int .i64)) : KeyAt P kt iV :=
  ⟨fun a b e => by simpa [iV] using e, ⟨_, h, fun _ => rfl, fun a b => by simp only [iV, Instr.sameNow, if_true]; rfl⟩, fun a => by simp [iV, Instr.sameBits]⟩
theorem bytes_beq (a b : List UInt8) : ((⟨a.toArray⟩ : ByteArray) == ⟨b.toArray⟩) = decide (a = b) := by
  show (a.toArray == b.toArray) = _
  by_cases e : a = b
  · subst e; simp
  · simp [e]
theorem key_string {P : Program} {kt : TypeId} (h : P.underlying kt = some .string) : KeyAt P kt S :=
  ⟨fun a b e => by simpa [S] using e, ⟨_, h, fun _ => trivial, fun a b => by simp only [S, Instr.sameNow, bytes_beq]⟩, fun a => by simp only [S, Instr.sameBits, bytes_beq, decide_true]⟩
end Go.Q
namespace Go.Q
set_option linter.unusedVariables false
/-- numbers that are led to one by one -/
def wk (l : Edges) : Int → List Int → Prop
  | _, [] => True
  | a, x :: r => (a, x) ∈ l ∧ wk l x r
def la : Int → List Int → Int
  | a, [] => a
  | _, x :: r => la x r
theorem la_snoc (x : Int) : ∀ (a : Int) (r : List Int), la a (r ++ [x]) = x
  | _, [] => rfl
  | _, y :: r => la_snoc x y r
theorem wk_app {l : Edges} : ∀ {a : Int} {r s : List Int}, wk l a (r ++ s) ↔ wk l a r ∧ wk l (la a r) s
  | a, [], s => by simp [wk, la]
  | a, y :: r, s => by simp only [List.cons_append, wk, la]; rw [wk_app (a := y) (r := r)]; exact and_assoc.symm
theorem la_app : ∀ (a : Int) (r s : List Int), la a (r ++ s) = la (la a r) s
  | _, [], _ => rfl
  | _, y :: r, s => la_app y r s
theorem la_last : ∀ (a : Int) (r : List Int), (a :: r).getLast? = some (la a r)
  | _, [] => rfl
  | a, y :: r => by rw [List.getLast?_cons_cons]; exact la_last y r
theorem wk_cut {l : Edges} {to : Int} : ∀ (r : List Int) (a : Int), wk l a r → (la a r, to) ∈ l → ∃ r', r'.length ≤ r.length ∧ wk l a r' ∧ (la a r', to) ∈ l ∧ r'.Nodup
  | [], a, h, e => ⟨[], Nat.le_refl _, h, e, List.nodup_nil⟩
  | x :: r, a, h, e => by
    obtain ⟨r1, h1, h2, h3, h4⟩ := wk_cut r x h.2 e
    by_cases hx : x ∈ r1
    · obtain ⟨p, q, rfl⟩ := List.append_of_mem hx
      have hn := List.nodup_append.1 h4
      have h5 := (wk_app.1 h2).2
      refine ⟨x :: q, ?_, ⟨h.1, h5.2⟩, ?_, hn.2.1⟩
      · simp only [List.length_append, List.length_cons] at h1 ⊢; omega
      · rw [la_app] at h3; exact h3
    · exact ⟨x :: r1, by simp only [List.length_cons]; omega, ⟨h.1, h2⟩, h3, List.nodup_cons.2 ⟨hx, h4⟩⟩
theorem nodup_len : ∀ (a b : List Int), a.Nodup → (∀ x ∈ a, x ∈ b) → a.length ≤ b.length
  | [], _, _, _ => Nat.zero_le _
  | x :: a, b, h, hs => by
    have h2 := List.nodup_cons.1 h
    have hx := hs x (List.mem_cons_self ..)
    have := nodup_len a (b.erase x) h2.2 fun y hy => (List.mem_erase_of_ne (fun e => h2.1 (by rw [← e]; exact hy))).2 (hs y (List.mem_cons_of_mem _ hy))
    rw [List.length_erase_of_mem hx] at this
    have : 0 < b.length := List.length_pos_of_mem hx
    rw [List.length_cons]; omega
theorem wk_snd {l : Edges} : ∀ (r : List Int) (a : Int), wk l a r → ∀ x ∈ r, ∃ y, (y, x) ∈ l
  | [], _, _, _, h => by simp at h
  | z :: r, a, h, x, hx => by
    rcases List.mem_cons.1 hx with rfl | hx
    · exact ⟨a, h.1⟩
    · exact wk_snd r z h.2 x hx
theorem stepsL_is {l : Edges} {to : Int} : ∀ (n k : Nat) (now : List Int), stepsL l to n k now ≠ 0 → ∃ j, stepsL l to n k now = k + j ∧ ∃ x ∈ now, ∃ r : List Int, r.length = j ∧ wk l x r ∧ (la x r, to) ∈ l
  | 0, _, _, h => absurd rfl h
  | n + 1, k, now, h => by
    rw [stepsL] at h ⊢
    by_cases g : to ∈ nextS l now
    · rw [if_pos g]
      obtain ⟨x, hx, e⟩ := nextS_mem.1 g
      exact ⟨0, rfl, x, hx, [], rfl, trivial, e⟩
    · rw [if_neg g] at h ⊢
      obtain ⟨j, h1, x, hx, r, h2, h3, h4⟩ := stepsL_is n (k + 1) _ h
      obtain ⟨y, hy, e⟩ := nextS_mem.1 hx
      exact ⟨j + 1, by omega, y, hy, x :: r, by simp only [List.length_cons]; omega, ⟨e, h3⟩, h4⟩
theorem stepsL_of {l : Edges} {to : Int} : ∀ (n k : Nat) (now : List Int) (x : Int) (r : List Int), x ∈ now → wk l x r → (la x r, to) ∈ l → r.length < n → k ≤ stepsL l to n k now ∧ stepsL l to n k now ≤ k + r.length
  | 0, _, _, _, _, _, _, _, h => by omega
  | n + 1, k, now, x, r, hx, h, e, hl => by
    rw [stepsL]
    by_cases g : to ∈ nextS l now
    · rw [if_pos g]; omega
    · rw [if_neg g]
      cases r with
      | nil => exact absurd (nextS_mem.2 ⟨x, hx, e⟩) g
      | cons y r =>
        have := stepsL_of n (k + 1) (nextS l now) y r (nextS_mem.2 ⟨x, hx, h.1⟩) h.2 e (by simp only [List.length_cons] at hl; omega)
        simp only [List.length_cons]; omega
theorem steps_is {l : Edges} {a to : Int} {k : Nat} (h : stepsS l a to = k + 1) : ∃ r : List Int, r.length = k ∧ wk l a r ∧ (la a r, to) ∈ l := by
  obtain ⟨j, h1, x, hx, r, h2, h3, h4⟩ := stepsL_is (l := l) (to := to) (l.length + 1) 1 [a] (by unfold stepsS at h; omega)
  rw [List.mem_singleton.1 hx] at h3 h4
  exact ⟨r, by unfold stepsS at h; omega, h3, h4⟩
theorem steps_of {l : Edges} {a to : Int} {r : List Int} (h : wk l a r) (e : (la a r, to) ∈ l) : 1 ≤ stepsS l a to ∧ stepsS l a to ≤ r.length + 1 := by
  obtain ⟨r', h1, h2, h3, h4⟩ := wk_cut r a h e
  have h5 : r'.length ≤ l.length := by
    have := nodup_len r' (l.map (·.2)) h4 fun x hx => by obtain ⟨y, hy⟩ := wk_snd r' a h2 x hx; exact List.mem_map.2 ⟨_, hy, rfl⟩
    rwa [List.length_map] at this
  have := stepsL_of (l := l) (to := to) (l.length + 1) 1 [a] a r' (by simp) h2 h3 (by omega)
  unfold stepsS; omega
/-- which of two ways of as many numbers is the lesser one -/
def lx : List Int → List Int → Prop
  | x :: w, y :: v => x < y ∨ (x = y ∧ lx w v)
  | [], _ :: _ => True
  | _, [] => False
theorem lx_irr : ∀ w, ¬ lx w w
  | [] => fun h => h
  | x :: w => fun h => h.elim (fun g => by omega) (fun g => lx_irr w g.2)
theorem lx_tr : ∀ {u v w : List Int}, lx u v → lx v w → lx u w
  | [], _ :: _, _ :: _, _, _ => trivial
  | [], _ :: _, [], _, h => h.elim
  | [], [], _, h, _ => h.elim
  | _ :: _, [], _, h, _ => h.elim
  | _ :: _, _ :: _, [], _, h => h.elim
  | x :: u, y :: v, z :: w, h, g => by
    rcases h with h | ⟨rfl, h⟩ <;> rcases g with g | ⟨rfl, g⟩
    · exact .inl (by omega)
    · exact .inl h
    · exact .inl g
    · exact .inr ⟨rfl, lx_tr h g⟩
theorem lx_app {s t : List Int} : ∀ {u v : List Int}, u.length = v.length → lx u v → lx (u ++ s) (v ++ t)
  | [], [], _, h => h.elim
  | [], _ :: _, h, _ => by simp at h
  | _ :: _, [], h, _ => by simp at h
  | x :: u, y :: v, hl, h => by
    rcases h with h | ⟨rfl, h⟩
    · exact .inl h
    · exact .inr ⟨rfl, lx_app (by simpa using hl) h⟩
theorem lx_same {s t : List Int} : ∀ (u : List Int), lx s t → lx (u ++ s) (u ++ t)
  | [], h => h
  | x :: u, h => .inr ⟨rfl, lx_same u h⟩
def slex (w v : List Int) : Prop := w.length < v.length ∨ (w.length = v.length ∧ lx w v)
theorem slex_tr {u v w : List Int} (h : slex u v) (g : slex v w) : slex u w := by
  rcases h with h | ⟨h, h'⟩ <;> rcases g with g | ⟨g, g'⟩
  · exact .inl (by omega)
  · exact .inl (by omega)
  · exact .inl (by omega)
  · exact .inr ⟨by omega, lx_tr h' g'⟩
theorem find_least {p : Int → Bool} : ∀ {m : List Int} {x : Int}, m.Pairwise (· < ·) → x ∈ m → p x = true → ∃ y, m.find? p = some y ∧ y ∈ m ∧ p y = true ∧ ∀ z ∈ m, p z = true → y ≤ z
  | [], _, _, h, _ => by simp at h
  | z :: m, x, hs, hx, hp => by
    have h2 := List.pairwise_cons.1 hs
    cases hz : p z with
    | true =>
      refine ⟨z, by rw [List.find?_cons, hz], by simp, hz, fun u hu _ => ?_⟩
      rcases List.mem_cons.1 hu with rfl | hu
      · omega
      · have := h2.1 u hu; omega
    | false =>
      have hxm : x ∈ m := (List.mem_cons.1 hx).resolve_left (fun e => by rw [e, hz] at hp; cases hp)
      obtain ⟨y, h3, h4, h5, h6⟩ := find_least h2.2 hxm hp
      refine ⟨y, by rw [List.find?_cons, hz]; exact h3, List.mem_cons_of_mem _ h4, h5, fun u hu hpu => ?_⟩
      exact h6 u ((List.mem_cons.1 hu).resolve_left (fun e => by rw [e, hz] at hpu; cases hpu)) hpu
theorem tail_is {l : Edges} {to : Int} : ∀ (k : Nat) (cur : Int), stepsS l cur to = k + 1 → wk l cur (tailS l to k cur) ∧ (la cur (tailS l to k cur), to) ∈ l ∧ (tailS l to k cur).length = k ∧ ∀ r : List Int, r.length = k → wk l cur r → (la cur r, to) ∈ l → ¬ lx r (tailS l to k cur)
  | 0, cur, h => by
    obtain ⟨r, h1, h2, h3⟩ := steps_is h
    obtain rfl := List.eq_nil_of_length_eq_zero h1
    exact ⟨trivial, h3, rfl, fun r _ _ _ g => by rw [tailS] at g; cases r <;> exact g⟩
  | k + 1, cur, h => by
    have key : ∀ x r, (cur, x) ∈ l → wk l x r → r.length = k → (la x r, to) ∈ l → stepsS l x to = k + 1 := fun x r e hw hl he => by
      have h1 := steps_of hw he
      obtain ⟨m, hm⟩ : ∃ m, stepsS l x to = m + 1 := ⟨stepsS l x to - 1, by omega⟩
      obtain ⟨r2, g1, g2, g3⟩ := steps_is hm
      have h2 := steps_of (l := l) (a := cur) (to := to) (r := x :: r2) ⟨e, g2⟩ g3
      simp only [List.length_cons] at h2; omega
    obtain ⟨r, h1, h2, h3⟩ := steps_is h
    cases r with
    | nil => simp at h1
    | cons x r =>
      have hx := key x r h2.1 h2.2 (by simpa using h1) h3
      obtain ⟨y, f1, f2, f3, f4⟩ := find_least (p := fun x => decide (stepsS l x to = k + 1)) (nextS_sorted l [cur]) (next1_mem.2 h2.1) (decide_eq_true hx)
      obtain ⟨i1, i2, i3, i4⟩ := tail_is k y (of_decide_eq_true f3)
      rw [tailS, f1]
      refine ⟨⟨next1_mem.1 f2, i1⟩, i2, by rw [List.length_cons, i3], fun r' g1 g2 g3 g4 => ?_⟩
      cases r' with
      | nil => simp at g1
      | cons z r' =>
        have hz := key z r' g2.1 g2.2 (by simpa using g1) g3
        have := f4 z (next1_mem.2 g2.1) (decide_eq_true hz)
        rcases g4 with g4 | ⟨rfl, g4⟩
        · omega
        · exact i4 r' (by simpa using g1) g2.2 g3 g4
/-- a way from a -/
def Wy (l : Edges) (a : Int) (w : List Int) : Prop := ∃ r, w = a :: r ∧ wk l a r
theorem Wy.snoc {l : Edges} {a y x : Int} {w : List Int} (h : Wy l a w) (hy : w.getLast? = some y) (e : (y, x) ∈ l) : Wy l a (w ++ [x]) := by
  obtain ⟨r, rfl, h⟩ := h
  rw [la_last] at hy
  obtain rfl := Option.some.inj hy
  exact ⟨r ++ [x], rfl, wk_app.2 ⟨h, e, trivial⟩⟩
structure TW (l : Edges) (a to : Int) (T : List Int) (n : Nat) : Prop where
  wy : Wy l a T
  len : T.length = n
  last : ∃ y, T.getLast? = some y ∧ (y, to) ∈ l
  least : ∀ w y, Wy l a w → w.getLast? = some y → (y, to) ∈ l → n ≤ w.length ∧ (w.length = n → ¬ lx w T)
theorem way_is {l : Edges} {a to : Int} (h : stepsS l a to ≠ 0) : TW l a to (rwayS l a to) (stepsS l a to) := by
  obtain ⟨k, hk⟩ : ∃ k, stepsS l a to = k + 1 := ⟨stepsS l a to - 1, by omega⟩
  obtain ⟨h1, h2, h3, h4⟩ := tail_is k a hk
  have e : rwayS l a to = a :: tailS l to k a := by rw [rwayS, if_neg h, hk]; rfl
  rw [e, hk]
  refine ⟨⟨_, rfl, h1⟩, by rw [List.length_cons, h3], ⟨_, la_last _ _, h2⟩, fun w y hw hy e => ?_⟩
  obtain ⟨r, rfl, hr⟩ := hw
  rw [la_last] at hy
  obtain rfl := Option.some.inj hy
  have := steps_of hr e
  refine ⟨by rw [List.length_cons]; omega, fun hl g => ?_⟩
  rcases g with g | ⟨_, g⟩
  · omega
  · exact h4 r (by simpa using hl) hr e g
theorem way_of {l : Edges} {a to y : Int} {w : List Int} (h : Wy l a w) (hy : w.getLast? = some y) (e : (y, to) ∈ l) : stepsS l a to ≠ 0 := by
  obtain ⟨r, rfl, hr⟩ := h
  rw [la_last] at hy
  obtain rfl := Option.some.inj hy
  have := steps_of hr e; omega
theorem wk_join {l : Edges} {a x y : Int} {w s : List Int} (h : Wy l a w) (hy : w.getLast? = some y) (e : (y, x) ∈ l) (hs : wk l x s) : Wy l a (w ++ x :: s) ∧ (w ++ x :: s).getLast? = some (la x s) := by
  obtain ⟨r, rfl, hr⟩ := h
  rw [la_last] at hy
  obtain rfl := Option.some.inj hy
  refine ⟨⟨r ++ x :: s, rfl, wk_app.2 ⟨hr, e, hs⟩⟩, ?_⟩
  rw [List.cons_append, la_last, la_app]; rfl
/-- a way that leads to the next number of T from before T's beginning: there is none -/
theorem TW.no {l : Edges} {a to x y : Int} {T q : List Int} {n j : Nat} (h : TW l a to T n) (hj : j + 1 < n) (hx : T[j + 1]? = some x) (hq : Wy l a q) (hy : q.getLast? = some y) (e : (y, x) ∈ l) (hs : slex q (T.take (j + 1))) : False := by
  obtain ⟨r, hT, hr⟩ := h.wy
  have hlt : j + 1 < T.length := by rw [h.len]; exact hj
  have hd : T.drop (j + 1) = x :: T.drop (j + 2) := by
    rw [List.drop_eq_getElem_cons hlt]
    have : T[j + 1] = x := by rw [List.getElem?_eq_getElem hlt] at hx; exact Option.some.inj hx
    rw [this]
  have hsp : T = T.take (j + 1) ++ x :: T.drop (j + 2) := by rw [← hd, List.take_append_drop]
  have hrd : r = r.take j ++ x :: T.drop (j + 2) := by
    have := hsp; rw [hT, List.take_succ_cons, List.cons_append] at this
    have := (List.cons.inj this).2; rw [hT]; exact this
  have hw : wk l x (T.drop (j + 2)) := by rw [hrd] at hr; exact (wk_app.1 hr).2.2
  have hl2 : (la x (T.drop (j + 2)), to) ∈ l := by
    obtain ⟨z, hz, e2⟩ := h.last
    rw [hT, la_last, hrd, la_app] at hz
    obtain rfl := Option.some.inj hz
    rw [hT] at e2 ⊢; exact e2
  obtain ⟨w1, w2⟩ := wk_join hq hy e hw
  obtain ⟨g1, g2⟩ := h.least _ _ w1 w2 hl2
  have hlen : (T.take (j + 1)).length = j + 1 := by rw [List.length_take]; omega
  have hdl : (T.drop (j + 2)).length = n - (j + 2) := by rw [List.length_drop, h.len]
  rw [List.length_append, List.length_cons, hdl] at g1 g2
  rcases hs with hs | ⟨hs, hs2⟩
  · omega
  · refine g2 (by omega) ?_
    have g3 := lx_app (s := x :: T.drop (j + 2)) (t := x :: T.drop (j + 2)) hs hs2
    rw [← hsp] at g3; exact g3
theorem TW.next {l : Edges} {a to : Int} {T : List Int} {n j : Nat} (h : TW l a to T n) (hj : j + 1 < n) : ∃ x y, T[j + 1]? = some x ∧ (T.take (j + 1)).getLast? = some y ∧ (y, x) ∈ l ∧ T.take (j + 1) ++ [x] = T.take (j + 2) := by
  obtain ⟨r, hT, hr⟩ := h.wy
  have hlt : j + 1 < T.length := by rw [h.len]; exact hj
  have hd : r.drop j = T[j + 1] :: r.drop (j + 1) := by
    have : j < r.length := by rw [hT] at hlt; simpa using hlt
    rw [List.drop_eq_getElem_cons this]; congr 1; subst hT; simp
  have h2 : wk l a (r.take j ++ T[j + 1] :: r.drop (j + 1)) := by rw [← hd, List.take_append_drop]; exact hr
  refine ⟨T[j + 1], la a (r.take j), List.getElem?_eq_getElem hlt, ?_, (wk_app.1 h2).2.1, ?_⟩
  · subst hT; rw [List.take_succ_cons, la_last]
  · rw [List.take_append_getElem]
structure BI (l : Edges) (a to : Int) (cur : List Int) (qs : List (List Int)) : Prop where
  sorted : cur.Pairwise (· < ·)
  wy : ∀ w ∈ qs, Wy l a w
  srt : qs.Pairwise slex
  near : ∀ w ∈ qs, ∀ h t, qs = h :: t → slex w.dropLast h
  met : ∀ x ∈ cur, ∃ q y, Wy l a q ∧ q.getLast? = some y ∧ (y, x) ∈ l ∧ ∀ h t, qs = h :: t → slex q h
  hit : stepsS l a to ≠ 0 → ∃ j, j < stepsS l a to ∧ (rwayS l a to).take (j + 1) ∈ qs
  len : ∀ w ∈ qs, w.length ≤ cur.length + 1
structure BJ (l : Edges) (a to : Int) (p : List Int) (m : List Int) (cur : List Int) (qs : List (List Int)) : Prop where
  sorted : cur.Pairwise (· < ·)
  wy : ∀ w ∈ p :: qs, Wy l a w
  srt : (p :: qs).Pairwise slex
  near : ∀ w ∈ qs, slex w.dropLast p ∨ ∃ x ∈ m, w = p ++ [x]
  met : ∀ x ∈ cur, (∃ q y, Wy l a q ∧ q.getLast? = some y ∧ (y, x) ∈ l ∧ slex q p) ∨ x ∈ m
  hit : stepsS l a to ≠ 0 → (∃ j, j < stepsS l a to ∧ (rwayS l a to).take (j + 1) ∈ qs) ∨ (∃ j, j + 1 < stepsS l a to ∧ p = (rwayS l a to).take (j + 1) ∧ ∀ x, (rwayS l a to)[j + 1]? = some x → x ∉ m) ∨ p = rwayS l a to
  nohit : to ∉ m
  len : ∀ w ∈ p :: qs, w.length ≤ cur.length + 1
theorem BI.start (l : Edges) (a to : Int) : BI l a to [] [[a]] := by
  refine ⟨List.Pairwise.nil, fun w hw => ?_, List.pairwise_singleton _ _, fun w hw h t e => ?_, fun x h => absurd h (by simp), fun h => ⟨0, by omega, ?_⟩, fun w hw => ?_⟩
  · rw [List.mem_singleton.1 hw]; exact ⟨[], rfl, trivial⟩
  · rw [List.mem_singleton.1 hw]; obtain rfl := (List.cons.inj e).1; exact .inl (by simp)
  · rw [rwayS, if_neg h]; simp
  · rw [List.mem_singleton.1 hw]; simp
theorem BI.open {l : Edges} {a to : Int} {cur : List Int} {p : List Int} {qs : List (List Int)} (h : BI l a to cur (p :: qs)) : BJ l a to p [] cur qs := by
  refine ⟨h.sorted, h.wy, h.srt, fun w hw => .inl (h.near w (List.mem_cons_of_mem _ hw) _ _ rfl), fun x hx => ?_, fun hn => ?_, by simp, h.len⟩
  · obtain ⟨q, y, h1, h2, h3, h4⟩ := h.met x hx
    exact .inl ⟨q, y, h1, h2, h3, h4 _ _ rfl⟩
  · obtain ⟨j, hj, hm⟩ := h.hit hn
    rcases List.mem_cons.1 hm with e | hm
    · by_cases hj2 : j + 1 < stepsS l a to
      · exact .inr (.inl ⟨j, hj2, e.symm, fun _ _ => by simp⟩)
      · refine .inr (.inr ?_)
        rw [← e, List.take_of_length_le]; have := (way_is hn).len; omega
    · exact .inl ⟨j, hj, hm⟩
theorem BJ.done {l : Edges} {a to y : Int} {cur : List Int} {p : List Int} {qs : List (List Int)} (hy : p.getLast? = some y) (h : BJ l a to p (nextS l [y]) cur qs) : BI l a to cur qs := by
  have hs := List.pairwise_cons.1 h.srt
  refine ⟨h.sorted, fun w hw => h.wy w (List.mem_cons_of_mem _ hw), hs.2, fun w hw g t e => ?_, fun x hx => ?_, fun hn => ?_, fun w hw => h.len w (List.mem_cons_of_mem _ hw)⟩
  · have hg := hs.1 g (by rw [e]; simp)
    rcases h.near w hw with g2 | ⟨x, hx, rfl⟩
    · exact slex_tr g2 hg
    · rw [List.dropLast_concat]; exact hg
  · rcases h.met x hx with ⟨q, z, h1, h2, h3, h4⟩ | hx
    · exact ⟨q, z, h1, h2, h3, fun g t e => slex_tr h4 (hs.1 g (by rw [e]; simp))⟩
    · exact ⟨p, y, h.wy p (by simp), hy, next1_mem.1 hx, fun g t e => hs.1 g (by rw [e]; simp)⟩
  · rcases h.hit hn with g | ⟨j, hj, hp, g⟩ | g
    · exact g
    · exfalso
      obtain ⟨x, z, h1, h2, h3, _⟩ := (way_is hn).next hj
      rw [← hp, hy] at h2
      obtain rfl := Option.some.inj h2
      exact g x h1 (next1_mem.2 h3)
    · exfalso
      obtain ⟨z, h1, h2⟩ := (way_is hn).last
      rw [← g, hy] at h1
      obtain rfl := Option.some.inj h1
      exact h.nohit (next1_mem.2 h2)
theorem BI.none {l : Edges} {a to : Int} {cur : List Int} {qs : List (List Int)} (h : BI l a to cur qs) (hl : qs.length = 0) : rwayS l a to = [] := by
  obtain rfl := List.eq_nil_of_length_eq_zero hl
  rw [rwayS, if_pos]
  refine Classical.byContradiction fun hn => ?_
  obtain ⟨j, _, hm⟩ := h.hit hn
  simp at hm
theorem BJ.ret {l : Edges} {a to y : Int} {m cur : List Int} {p : List Int} {qs : List (List Int)} (h : BJ l a to p m cur qs) (hy : p.getLast? = some y) (e : to ∈ nextS l [y]) : p = rwayS l a to := by
  have e := next1_mem.1 e
  have hw := h.wy p (by simp)
  have hn := way_of hw hy e
  have T := way_is hn
  obtain ⟨g1, g2⟩ := T.least p y hw hy e
  rcases h.hit hn with ⟨j, hj, hm⟩ | ⟨j, hj, hp, _⟩ | g
  · exfalso
    have hlt : ((rwayS l a to).take (j + 1)).length = j + 1 := by rw [List.length_take, T.len]; omega
    rcases (List.pairwise_cons.1 h.srt).1 _ hm with g | ⟨g, g3⟩
    · omega
    · refine g2 (by omega) ?_
      rwa [List.take_of_length_le (by rw [T.len]; omega)] at g3
  · exfalso
    have : p.length ≤ j + 1 := by rw [hp, List.length_take]; omega
    omega
  · exact g
theorem m_sorted {m : List Int} (hs : m.Pairwise (· < ·)) {i : Nat} {x : Int} (hx : m[i]? = some x) : ∀ z ∈ m.take i, z < x := fun z hz => by
  have hlt : i < m.length := (List.getElem?_eq_some_iff.1 hx).1
  have e := (List.getElem?_eq_some_iff.1 hx).2
  obtain ⟨k, hk⟩ := List.mem_iff_getElem?.1 hz
  rw [List.getElem?_take] at hk
  split at hk
  · rename_i hki
    obtain ⟨hk2, e2⟩ := List.getElem?_eq_some_iff.1 hk
    have := List.pairwise_iff_getElem.1 hs k i hk2 hlt hki
    omega
  · cases hk
/-- one more number that p leads to -/
theorem BJ.step {l : Edges} {a to y x : Int} {i : Nat} {cur : List Int} {p : List Int} {qs more : List (List Int)} (h : BJ l a to p ((nextS l [y]).take i) cur qs) (hy : p.getLast? = some y) (hx : (nextS l [y])[i]? = some x) (hne : x ≠ to)
    (hm : (more = [] ∧ x ∈ cur) ∨ (more = [p ++ [x]] ∧ x ∉ cur)) : BJ l a to p ((nextS l [y]).take (i + 1)) (withS x false cur) (qs ++ more) := by
  have hxm : x ∈ nextS l [y] := List.mem_of_getElem? hx
  have e := next1_mem.1 hxm
  have htk : ∀ z, z ∈ (nextS l [y]).take (i + 1) ↔ z ∈ (nextS l [y]).take i ∨ z = x := fun z => by rw [take_succ_of hx, List.mem_append, List.mem_singleton]
  have hlt := m_sorted (nextS_sorted l [y]) hx
  have hl := (withS_len x cur h.sorted).1
  have hge : cur.length ≤ (withS x false cur).length := by split at hl <;> omega
  have hpl := h.len p (by simp)
  have hmore : ∀ w ∈ more, w = p ++ [x] ∧ x ∉ cur := fun w hw => by
    rcases hm with ⟨rfl, _⟩ | ⟨rfl, g⟩
    · simp at hw
    · exact ⟨List.mem_singleton.1 hw, g⟩
  refine ⟨withS_sorted x cur h.sorted, fun w hw => ?_, ?_, fun w hw => ?_, fun z hz => ?_, fun hn => ?_, fun g => ?_, fun w hw => ?_⟩
  · rw [← List.cons_append] at hw
    rcases List.mem_append.1 hw with hw | hw
    · exact h.wy w hw
    · rw [(hmore w hw).1]; exact (h.wy p (by simp)).snoc hy e
  · rw [← List.cons_append]
    refine List.pairwise_append.2 ⟨h.srt, ?_, fun w hw v hv => ?_⟩
    · rcases hm with ⟨rfl, _⟩ | ⟨rfl, _⟩
      · exact List.Pairwise.nil
      · exact List.pairwise_singleton _ _
    · rw [(hmore v hv).1]
      rcases List.mem_cons.1 hw with rfl | hw
      · exact .inl (by simp)
      · rcases h.near w hw with g | ⟨z, hz, rfl⟩
        · have hwl : w ≠ [] := by obtain ⟨r, hr, _⟩ := h.wy w (List.mem_cons_of_mem _ hw); rw [hr]; simp
          have hdl : w.dropLast.length = w.length - 1 := List.length_dropLast
          have hw1 : 0 < w.length := List.length_pos_iff.2 hwl
          rcases g with g | ⟨g, g2⟩
          · exact .inl (by rw [List.length_append, List.length_singleton]; omega)
          · refine .inr ⟨by rw [List.length_append, List.length_singleton]; omega, ?_⟩
            have := lx_app (s := [w.getLast hwl]) (t := [x]) g g2
            rwa [List.dropLast_concat_getLast hwl] at this
        · exact .inr ⟨by simp, lx_same p (.inl (hlt z hz))⟩
  · rcases List.mem_append.1 hw with hw | hw
    · rcases h.near w hw with g | ⟨z, hz, e⟩
      · exact .inl g
      · exact .inr ⟨z, (htk z).2 (.inl hz), e⟩
    · exact .inr ⟨x, (htk x).2 (.inr rfl), (hmore w hw).1⟩
  · rcases (withS_mem x z cur).1 hz with rfl | hz
    · exact .inr ((htk _).2 (.inr rfl))
    · rcases h.met z hz with g | g
      · exact .inl g
      · exact .inr ((htk z).2 (.inl g))
  · rcases h.hit hn with ⟨j, hj, g⟩ | ⟨j, hj, hp, g⟩ | g
    · exact .inl ⟨j, hj, List.mem_append_left _ g⟩
    · obtain ⟨u, v, h1, h2, h3, h4⟩ := (way_is hn).next hj
      by_cases hu : u = x
      · subst hu
        rcases hm with ⟨_, hc⟩ | ⟨rfl, _⟩
        · exfalso
          rcases h.met u hc with ⟨q, z, q1, q2, q3, q4⟩ | g2
          · exact (way_is hn).no hj h1 q1 q2 q3 (hp ▸ q4)
          · exact g u h1 g2
        · exact .inl ⟨j + 1, hj, List.mem_append_right _ (by rw [hp, h4]; simp)⟩
      · refine .inr (.inl ⟨j, hj, hp, fun z hz hzm => ?_⟩)
        rcases (htk z).1 hzm with g2 | g2
        · exact g z hz g2
        · rw [h1] at hz; exact hu ((Option.some.inj hz).trans g2)
    · exact .inr (.inr g)
  · rcases (htk to).1 g with g | g
    · exact h.nohit g
    · exact hne g.symm
  · rw [← List.cons_append] at hw
    rcases List.mem_append.1 hw with hw | hw
    · have := h.len w hw; omega
    · obtain ⟨rfl, hc⟩ := hmore w hw
      rw [if_neg hc] at hl
      rw [List.length_append, List.length_singleton]; omega
theorem BI.from {l : Edges} {a to : Int} {cur : List Int} {qs : List (List Int)} (h : BI l a to cur qs) : cur.length ≤ l.length :=
  len_snd h.sorted fun x hx => by obtain ⟨q, y, _, _, e, _⟩ := h.met x hx; exact ⟨y, e⟩
theorem BJ.from {l : Edges} {a to y : Int} {i : Nat} {cur : List Int} {p : List Int} {qs : List (List Int)} (h : BJ l a to p ((nextS l [y]).take i) cur qs) : cur.length ≤ l.length :=
  len_snd h.sorted fun x hx => by
    rcases h.met x hx with ⟨q, y, _, _, e, _⟩ | g
    · exact ⟨y, e⟩
    · exact ⟨_, next1_mem.1 (List.mem_of_mem_take g)⟩
theorem BJ.sub_len {l : Edges} {a to y x : Int} {i : Nat} {cur : List Int} {p : List Int} {qs : List (List Int)} (h : BJ l a to p ((nextS l [y]).take i) cur qs) (hx : (nextS l [y])[i]? = some x) : (withS x false cur).length ≤ l.length :=
  len_snd (withS_sorted x cur h.sorted) fun z hz => by
    rcases (withS_mem x z cur).1 hz with rfl | hz
    · exact ⟨_, next1_mem.1 (List.mem_of_getElem? hx)⟩
    · rcases h.met z hz with ⟨q, y, _, _, e, _⟩ | g
      · exact ⟨y, e⟩
      · exact ⟨_, next1_mem.1 (List.mem_of_mem_take g)⟩
theorem head_drop {α : Type} {l : List α} {x : α} (h : l[((0 : Int)).toNat]? = some x) : l = x :: l.drop 1 := by
  cases l with
  | nil => simp at h
  | cons y t => obtain rfl : y = x := by simpa using h
                rfl
theorem wy_pos {l : Edges} {a : Int} {w : List Int} (h : Wy l a w) : 1 ≤ w.length := by
  obtain ⟨r, rfl, _⟩ := h; simp
/-- a way as it lies in a row of ways -/
def wyV (q : (Option Addr × Nat) × List Int) : Value := .slice q.1.1 q.2.length q.1.2
theorem one_wyV (l : List ((Option Addr × Nat) × List Int)) : ∀ u ∈ l.map wyV, u.oneCell' = true := by intro u hu; obtain ⟨x, _, rfl⟩ := List.mem_map.1 hu; rfl
end Go.Q
namespace Go.Q
structure Pw where
  off : Bool
  armed : Bool
  left : Int
  uses : Int
def useS (p : Pw) : Pw := if p.off = true then p else ⟨p.armed && decide (p.left = 0), p.armed, p.left - 1, p.uses + 1⟩
def useB (p : Pw) : Bool := !p.off && !(useS p).off
def backS (p : Pw) : Pw := ⟨false, false, p.left, p.uses⟩
def armS (p : Pw) (n : Int) : Pw := ⟨p.off, true, max n 0, p.uses⟩
def PwOk (p : Pw) : Prop := 0 ≤ p.uses ∧ p.uses ≤ 4000000000000000000 ∧ -4000000000000000000 ≤ p.left ∧ p.left ≤ 9223372036854775807
def blankS : Bs := List.replicate 64 0
def fillS (s : Bs) : Bs := s ++ blankS.drop s.length
theorem blank_len : blankS.length = 64 := rfl
theorem fill_len {s : Bs} (h : s.length ≤ 64) : (fillS s).length = 64 := by unfold fillS; rw [List.length_append, List.length_drop, blank_len]; omega
def settleS (lo : List (Int × Bs)) (la : List Bs) (keep : List Int) : List Bs := keep.foldl (fun acc n => match getB lo n with | some s => acc.set n.toNat s | none => acc) la
theorem settle_len (lo : List (Int × Bs)) : ∀ (keep : List Int) (la : List Bs), (settleS lo la keep).length = la.length
  | [], _ => rfl
  | n :: keep, la => by
    show (settleS lo _ keep).length = _
    rw [settle_len lo keep]
    show (match getB lo n with | some s => la.set n.toNat s | none => la).length = _
    split <;> simp
theorem settle_step {lo : List (Int × Bs)} {la : List Bs} {keep : List Int} {k : Nat} {n : Int} (h : keep[k]? = some n) : settleS lo la (keep.take (k + 1)) = match getB lo n with | some s => (settleS lo la (keep.take k)).set n.toNat s | none => settleS lo la (keep.take k) := by
  unfold settleS; rw [take_succ_of h, List.foldl_append]; rfl
theorem settle_yes {lo : List (Int × Bs)} {la : List Bs} {keep : List Int} {k : Nat} {n : Int} (h : keep[k]? = some n) (g : (getB lo n).isSome = true) : settleS lo la (keep.take (k + 1)) = (settleS lo la (keep.take k)).set n.toNat ((getB lo n).getD []) := by
  rw [settle_step h]
  cases e : getB lo n with
  | none => rw [e] at g; cases g
  | some s => rfl
theorem settle_no {lo : List (Int × Bs)} {la : List Bs} {keep : List Int} {k : Nat} {n : Int} (h : keep[k]? = some n) (g : (getB lo n).isSome = false) : settleS lo la (keep.take (k + 1)) = settleS lo la (keep.take k) := by
  rw [settle_step h]
  cases e : getB lo n with
  | none => rfl
  | some s => rw [e] at g; cases g
def inS (n : Int) (k : Nat) : Prop := 0 ≤ n ∧ n < (k : Int)
instance (n : Int) (k : Nat) : Decidable (inS n k) := inferInstanceAs (Decidable (_ ∧ _))
/-- what is loose has a place, and a sector's bytes -/
def LoOk (lo : List (Int × Bs)) (k : Nat) : Prop := ∀ p ∈ lo, inS p.1 k ∧ p.2.length = 64
theorem LoOk.get {lo : List (Int × Bs)} {k : Nat} (h : LoOk lo k) {n : Int} (g : (getB lo n).isSome = true) : inS n k := by
  obtain ⟨p, hp, rfl⟩ := List.mem_map.1 (getB_mem.1 g)
  exact (h p hp).1
def keysS (lo : List (Int × Bs)) : List Int := (lo.map (·.1)).mergeSort (fun x y => decide (x ≤ y))
def readS (p : Pw) (la : List Bs) (lo : List (Int × Bs)) (n : Int) : Bs := if p.off = true then [] else if inS n la.length then (if (getB lo n).isSome = true then (getB lo n).getD [] else (la[n.toNat]?).getD []) else []
def readE (p : Pw) (la : List Bs) (n : Int) : Int := if p.off = true then 6 else if inS n la.length then 0 else 1
def writeE (p : Pw) (k : Nat) (n : Int) (s : Bs) : Int := if useB p = true then (if s.length ≤ 64 ∧ inS n k then 0 else 1) else 6
def writeS (p : Pw) (k : Nat) (lo : List (Int × Bs)) (n : Int) (s : Bs) : List (Int × Bs) := if useB p = true ∧ s.length ≤ 64 ∧ inS n k then putB lo n (fillS s) else lo
def syncE (p : Pw) : Int := if useB p = true then 0 else 6
def syncA (p : Pw) (la : List Bs) (lo : List (Int × Bs)) : List Bs := if useB p = true then settleS lo la (keysS lo) else la
def syncO (p : Pw) (lo : List (Int × Bs)) : List (Int × Bs) := if useB p = true then [] else lo
def lastsS (la : List Bs) (n : Int) : Bs := if inS n la.length then (la[n.toNat]?).getD [] else []
def putE (k : Nat) (n : Int) (s : Bs) : Int := if s.length ≤ 64 ∧ inS n k then 0 else 1
def putA (la : List Bs) (n : Int) (s : Bs) : List Bs := if s.length ≤ 64 ∧ inS n la.length then la.set n.toNat (fillS s) else la
def putO (k : Nat) (lo : List (Int × Bs)) (n : Int) (s : Bs) : List (Int × Bs) := if s.length ≤ 64 ∧ inS n k then delB lo n else lo
/-- two heaplets and more, told as one -/
theorem Has.open3 {E w : World} {a b c : List Hp} {ss : List (List Hp)} (H : Has E w ((a ++ (b ++ c)) :: ss)) : Has E w (a :: b :: c :: ss) := by
  unfold Has at *; simpa [List.append_assoc] using H
theorem Has.close3 {E w : World} {a b c : List Hp} {ss : List (List Hp)} (H : Has E w (a :: b :: c :: ss)) : Has E w ((a ++ (b ++ c)) :: ss) := by
  unfold Has at *; simpa [List.append_assoc] using H
theorem Has.all5 {E w : World} {a0 a1 a2 a3 a4 : List Hp} {ss : List (List Hp)} (H : Has E w (a0 :: a1 :: a2 :: a3 :: a4 :: ss)) : Has E w [a0, a1, a2, a3, a4, ss.flatten] := by unfold Has at *; simpa using H
theorem Has.of_all5 {E w : World} {a0 a1 a2 a3 a4 : List Hp} {ss : List (List Hp)} (H : Has E w [a0, a1, a2, a3, a4, ss.flatten]) : Has E w (a0 :: a1 :: a2 :: a3 :: a4 :: ss) := by unfold Has at *; simpa using H
theorem Has.all6 {E w : World} {a0 a1 a2 a3 a4 a5 : List Hp} {ss : List (List Hp)} (H : Has E w (a0 :: a1 :: a2 :: a3 :: a4 :: a5 :: ss)) : Has E w [a0, a1, a2, a3, a4, a5, ss.flatten] := by unfold Has at *; simpa using H
theorem Has.of_all6 {E w : World} {a0 a1 a2 a3 a4 a5 : List Hp} {ss : List (List Hp)} (H : Has E w [a0, a1, a2, a3, a4, a5, ss.flatten]) : Has E w (a0 :: a1 :: a2 :: a3 :: a4 :: a5 :: ss) := by unfold Has at *; simpa using H
theorem Has.all7 {E w : World} {a0 a1 a2 a3 a4 a5 a6 : List Hp} {ss : List (List Hp)} (H : Has E w (a0 :: a1 :: a2 :: a3 :: a4 :: a5 :: a6 :: ss)) : Has E w [a0, a1, a2, a3, a4, a5, a6, ss.flatten] := by unfold Has at *; simpa using H
theorem Has.of_all7 {E w : World} {a0 a1 a2 a3 a4 a5 a6 : List Hp} {ss : List (List Hp)} (H : Has E w [a0, a1, a2, a3, a4, a5, a6, ss.flatten]) : Has E w (a0 :: a1 :: a2 :: a3 :: a4 :: a5 :: a6 :: ss) := by unfold Has at *; simpa using H
theorem Has.all8 {E w : World} {a0 a1 a2 a3 a4 a5 a6 a7 : List Hp} {ss : List (List Hp)} (H : Has E w (a0 :: a1 :: a2 :: a3 :: a4 :: a5 :: a6 :: a7 :: ss)) : Has E w [a0, a1, a2, a3, a4, a5, a6, a7, ss.flatten] := by unfold Has at *; simpa using H
theorem Has.of_all8 {E w : World} {a0 a1 a2 a3 a4 a5 a6 a7 : List Hp} {ss : List (List Hp)} (H : Has E w [a0, a1, a2, a3, a4, a5, a6, a7, ss.flatten]) : Has E w (a0 :: a1 :: a2 :: a3 :: a4 :: a5 :: a6 :: a7 :: ss) := by unfold Has at *; simpa using H
theorem Has.all9 {E w : World} {a0 a1 a2 a3 a4 a5 a6 a7 a8 : List Hp} {ss : List (List Hp)} (H : Has E w (a0 :: a1 :: a2 :: a3 :: a4 :: a5 :: a6 :: a7 :: a8 :: ss)) : Has E w [a0, a1, a2, a3, a4, a5, a6, a7, a8, ss.flatten] := by unfold Has at *; simpa using H
theorem Has.of_all9 {E w : World} {a0 a1 a2 a3 a4 a5 a6 a7 a8 : List Hp} {ss : List (List Hp)} (H : Has E w [a0, a1, a2, a3, a4, a5, a6, a7, a8, ss.flatten]) : Has E w (a0 :: a1 :: a2 :: a3 :: a4 :: a5 :: a6 :: a7 :: a8 :: ss) := by unfold Has at *; simpa using H
theorem Has.all10 {E w : World} {a0 a1 a2 a3 a4 a5 a6 a7 a8 a9 : List Hp} {ss : List (List Hp)} (H : Has E w (a0 :: a1 :: a2 :: a3 :: a4 :: a5 :: a6 :: a7 :: a8 :: a9 :: ss)) : Has E w [a0, a1, a2, a3, a4, a5, a6, a7, a8, a9, ss.flatten] := by unfold Has at *; simpa using H
theorem Has.of_all10 {E w : World} {a0 a1 a2 a3 a4 a5 a6 a7 a8 a9 : List Hp} {ss : List (List Hp)} (H : Has E w [a0, a1, a2, a3, a4, a5, a6, a7, a8, a9, ss.flatten]) : Has E w (a0 :: a1 :: a2 :: a3 :: a4 :: a5 :: a6 :: a7 :: a8 :: a9 :: ss) := by unfold Has at *; simpa using H
theorem Has.all11 {E w : World} {a0 a1 a2 a3 a4 a5 a6 a7 a8 a9 a10 : List Hp} {ss : List (List Hp)} (H : Has E w (a0 :: a1 :: a2 :: a3 :: a4 :: a5 :: a6 :: a7 :: a8 :: a9 :: a10 :: ss)) : Has E w [a0, a1, a2, a3, a4, a5, a6, a7, a8, a9, a10, ss.flatten] := by unfold Has at *; simpa using H
theorem Has.of_all11 {E w : World} {a0 a1 a2 a3 a4 a5 a6 a7 a8 a9 a10 : List Hp} {ss : List (List Hp)} (H : Has E w [a0, a1, a2, a3, a4, a5, a6, a7, a8, a9, a10, ss.flatten]) : Has E w (a0 :: a1 :: a2 :: a3 :: a4 :: a5 :: a6 :: a7 :: a8 :: a9 :: a10 :: ss) := by unfold Has at *; simpa using H
theorem Has.all12 {E w : World} {a0 a1 a2 a3 a4 a5 a6 a7 a8 a9 a10 a11 : List Hp} {ss : List (List Hp)} (H : Has E w (a0 :: a1 :: a2 :: a3 :: a4 :: a5 :: a6 :: a7 :: a8 :: a9 :: a10 :: a11 :: ss)) : Has E w [a0, a1, a2, a3, a4, a5, a6, a7, a8, a9, a10, a11, ss.flatten] := by unfold Has at *; simpa using H
theorem Has.of_all12 {E w : World} {a0 a1 a2 a3 a4 a5 a6 a7 a8 a9 a10 a11 : List Hp} {ss : List (List Hp)} (H : Has E w [a0, a1, a2, a3, a4, a5, a6, a7, a8, a9, a10, a11, ss.flatten]) : Has E w (a0 :: a1 :: a2 :: a3 :: a4 :: a5 :: a6 :: a7 :: a8 :: a9 :: a10 :: a11 :: ss) := by unfold Has at *; simpa using H
end Go.Q
namespace Go.Q
structure Plc where
  key : Bs
  wr : Bool
  own : Int
def plC (a : Plc) : List Value := [S a.key, .bool a.wr, iV a.own]
theorem plC_len (a : Plc) : (plC a).length = 3 := rfl
theorem one_plC (l : List Plc) : ∀ u ∈ l.flatMap plC, u.oneCell' = true := by
  intro u hu
  obtain ⟨p, _, hp⟩ := List.mem_flatMap.1 hu
  simp only [plC, List.mem_cons, List.not_mem_nil, or_false] at hp
  rcases hp with rfl | rfl | rfl <;> rfl
/-- lock.at -/
def atS (l : List Plc) (o : Int) : Int := match l.findIdx? (fun p => decide (p.own = o)) with
  | some i => (i : Int)
  | none => -1
theorem atS_none {l : List Plc} {o : Int} (h : ∀ (j : Nat) (x : Plc), l[j]? = some x → x.own ≠ o) : atS l o = -1 := by
  unfold atS
  rw [List.findIdx?_eq_none_iff.2 fun x hx => by
    obtain ⟨j, hj⟩ := List.getElem?_of_mem hx
    simpa using h j x hj]
theorem atS_some {l : List Plc} {o : Int} {k : Nat} {x : Plc} (h : ∀ j, j < k → ∀ y, l[j]? = some y → y.own ≠ o) (hx : l[k]? = some x) (e : x.own = o) : atS l o = (k : Int) := by
  unfold atS
  obtain ⟨hlt, hk⟩ := List.getElem?_eq_some_iff.1 hx
  rw [List.findIdx?_eq_some_iff_getElem.2 ⟨hlt, by rw [hk]; simpa using e, fun j hj => by
    have := h j hj l[j] (List.getElem?_eq_getElem (by omega))
    simpa using this⟩]
/-- place.clash -/
def clashS (p q : Plc) : Bool := decide (p.own ≠ q.own) && (p.wr || q.wr)
/-- entry.free, hold, wait, grant -/
def freeS (h : List Plc) (p : Plc) : Bool := !(h.any (clashS p))
def holdS (h : List Plc) (p : Plc) : List Plc := if 0 ≤ atS h p.own then h.set (atS h p.own).toNat p else h ++ [p]
def insAt {α : Type} (l : List α) (i : Nat) (p : α) : List α := l.take i ++ [p] ++ l.drop i
def noAt (h : List Plc) (q : Plc) : Bool := decide (atS h q.own < 0)
def lineS (h l : List Plc) : Int := idxG (noAt h) l
def waitS (h l : List Plc) (p : Plc) : List Plc := if atS h p.own < 0 then l ++ [p] else if lineS h l < 0 then l ++ [p] else insAt l (lineS h l).toNat p
def grantS : List Plc → List Plc → List Int × List Plc × List Plc
  | h, [] => ([], h, [])
  | h, p :: t => if freeS h p = true then ((p.own :: (grantS (holdS h p) t).1), (grantS (holdS h p) t).2) else ([], h, p :: t)
theorem atS_lt (l : List Plc) (o : Int) : -1 ≤ atS l o ∧ atS l o < l.length := by
  unfold atS
  cases h : l.findIdx? (fun p => decide (p.own = o)) with
  | none => simp only; omega
  | some i =>
    obtain ⟨hlt, _, _⟩ := List.findIdx?_eq_some_iff_getElem.1 h
    simp only; omega
/-- The table: each key with its holders and its line, in the order in which they came. -/
structure Ent where
  hold : List Plc
  line : List Plc
abbrev Tab := List (Bs × Ent)
def namesS (t : Tab) : List Bs := (t.map (·.1)).mergeSort (fun x y => decide (x ≤ y))
end Go.Q
namespace Go.Q
def ownIs (o : Int) (p : Plc) : Bool := decide (p.own = o)
def keyIs (k : Bs) (p : Plc) : Bool := decide (p.key = k)
theorem atS_idx {l : List Plc} {o : Int} : atS l o = idxG (ownIs o) l := rfl
end Go.Q
namespace Go.Q
theorem grant_stop {h l : List Plc} (hs : l = [] ∨ ∃ x, l[0]? = some x ∧ freeS h x = false) : grantS h l = ([], h, l) := by
  rcases hs with rfl | ⟨x, hx, hf⟩
  · rfl
  · cases l with
    | nil => simp at hx
    | cons p t =>
      obtain rfl : p = x := by simpa using hx
      rw [grantS, if_neg (by rw [hf]; decide)]
theorem grant_go {h l : List Plc} {x : Plc} (hx : l[0]? = some x) (hf : freeS h x = true) : grantS h l = (x.own :: (grantS (holdS h x) (l.drop 1)).1, (grantS (holdS h x) (l.drop 1)).2) := by
  cases l with
  | nil => simp at hx
  | cons p t =>
    obtain rfl : p = x := by simpa using hx
    rw [grantS, if_pos hf]; rfl
theorem holdS_len (h : List Plc) (p : Plc) : (holdS h p).length ≤ h.length + 1 ∧ h.length ≤ (holdS h p).length := by
  unfold holdS; split
  · rw [List.length_set]; omega
  · rw [List.length_append]; simp
theorem grant_len : ∀ (l h : List Plc), (grantS h l).2.1.length + (grantS h l).2.2.length ≤ h.length + l.length
  | [], h => by simp [grantS]
  | p :: t, h => by
    rw [grantS]
    split
    · have := grant_len t (holdS h p); have := holdS_len h p; simp only [List.length_cons]; omega
    · simp
theorem grant_out : ∀ (l h : List Plc), (grantS h l).1.length ≤ l.length
  | [], h => by simp [grantS]
  | p :: t, h => by
    rw [grantS]
    split
    · have := grant_out t (holdS h p); simp only [List.length_cons]; omega
    · simp
def grE (v : Ent) : Ent := ⟨(grantS v.hold v.line).2.1, (grantS v.hold v.line).2.2⟩
end Go.Q
namespace Go.Q
abbrev Cel := Bs × Bs
def ceC (c : Cel) : List Value := [S c.1, S c.2]
theorem ceC_len (c : Cel) : (ceC c).length = 2 := rfl
theorem one_ceC (l : List Cel) : ∀ u ∈ l.flatMap ceC, u.oneCell' = true := one_flat (fun p u hu => by
  simp only [ceC, List.mem_cons, List.not_mem_nil, or_false] at hu
  rcases hu with rfl | rfl <;> rfl) l
/-- in the order of their keys, each once -/
def Rises (l : List Cel) : Prop := l.Pairwise fun a b => a.1 < b.1
instance (l : List Cel) : Decidable (Rises l) := inferInstanceAs (Decidable (l.Pairwise fun a b => a.1 < b.1))
def celOk (c : Cel) : Bool := keyR c.1 && valR (true, c.2)
def cellsR (l : List Cel) : Bool := l.all celOk && decide (Rises l) && decide (l.length ≤ 8)
def pageR (no gsn : Int) (l : List Cel) : Bool := decide (0 ≤ no ∧ no < 64 ∧ 0 ≤ gsn ∧ gsn ≤ 4611686018427387903) && cellsR l
theorem cellsR_iff {l : List Cel} : cellsR l = true ↔ (∀ c ∈ l, celOk c = true) ∧ Rises l ∧ l.length ≤ 8 := by
  unfold cellsR; rw [Bool.and_eq_true, Bool.and_eq_true, List.all_eq_true, decide_eq_true_iff, decide_eq_true_iff, and_assoc]
theorem rises_snoc {l : List Cel} {c : Cel} (h : Rises l) (hl : ∀ p, l.getLast? = some p → p.1 < c.1) : Rises (l ++ [c]) := by
  refine List.pairwise_append.2 ⟨h, List.pairwise_singleton _ _, fun a ha b hb => ?_⟩
  rw [List.mem_singleton.1 hb]
  cases hz : l.getLast? with
  | none => rw [List.getLast?_eq_none_iff] at hz; subst hz; cases ha
  | some p =>
    have hp := hl p hz
    obtain ⟨q, rfl⟩ : ∃ q, l = q ++ [p] := by
      obtain ⟨q, hq⟩ := List.getLast?_eq_some_iff.1 hz
      exact ⟨q, hq⟩
    rcases List.mem_append.1 ha with e | e
    · exact bs_tr ((List.pairwise_append.1 h).2.2 a e p (List.mem_singleton.2 rfl)) hp
    · rw [List.mem_singleton.1 e]; exact hp
theorem take_last {α : Type} {l : List α} {k : Nat} {p : α} (hk : k ≤ l.length) (h : (l.take k).getLast? = some p) : 0 < k ∧ l[k - 1]? = some p := by
  rcases Nat.eq_zero_or_pos k with e | e
  · subst e; simp at h
  · rw [List.getLast?_eq_getElem?, List.length_take, Nat.min_eq_left hk, List.getElem?_take, if_pos (by omega)] at h
    exact ⟨e, h⟩
theorem cells_next {l : List Cel} {k : Nat} {c : Cel} (hx : l[k]? = some c) (h : Rises (l.take k)) (hp : ∀ p, 0 < k → l[k - 1]? = some p → p.1 < c.1) : Rises (l.take (k + 1)) := by
  have hk : k < l.length := (List.getElem?_eq_some_iff.1 hx).1
  rw [take_succ_of hx]
  exact rises_snoc h fun p hpl => (take_last (by omega) hpl).elim fun h1 h2 => hp p h1 h2
theorem all_next {l : List Cel} {k : Nat} {c : Cel} (hx : l[k]? = some c) (h : (l.take k).all celOk = true) (hc : celOk c = true) : (l.take (k + 1)).all celOk = true := by
  rw [take_succ_of hx, List.all_append, h]; simp [hc]
theorem cells_no1 {l : List Cel} {k : Nat} {c : Cel} (hx : l[k]? = some c) (h : celOk c = false) : cellsR l = false := by
  cases e : cellsR l with
  | false => rfl
  | true => rw [(cellsR_iff.1 e).1 c (List.mem_of_getElem? hx)] at h; cases h
theorem cells_no2 {l : List Cel} {k : Nat} {p c : Cel} (hk : 0 < k) (hx : l[k]? = some c) (hp : l[k - 1]? = some p) (h : ¬ p.1 < c.1) : cellsR l = false := by
  cases e : cellsR l with
  | false => rfl
  | true =>
    have hr := List.pairwise_iff_getElem.1 (cellsR_iff.1 e).2.1
    obtain ⟨h1, h2⟩ := List.getElem?_eq_some_iff.1 hx
    obtain ⟨h3, h4⟩ := List.getElem?_eq_some_iff.1 hp
    have := hr (k - 1) k h3 h1 (by omega)
    rw [h2, h4] at this
    exact absurd this h
theorem cells_end {l : List Cel} (h : l.all celOk = true) (hr : Rises l) : cellsR l = decide (l.length ≤ 8) := by
  unfold cellsR; rw [h, decide_eq_true hr]; simp
/-! ### a key's place -/
def posC (l : List Cel) (key : Bs) : Int := ((l.filter fun c => decide (c.1 < key)).length : Int)
def hasC (l : List Cel) (key : Bs) : Bool := l.any fun c => decide (c.1 = key)
theorem posC_le (l : List Cel) (key : Bs) : 0 ≤ posC l key ∧ posC l key ≤ l.length := by
  unfold posC
  have := List.length_filter_le (fun c : Cel => decide (c.1 < key)) l
  omega
theorem posC_at {l : List Cel} {key : Bs} {i : Nat} (hi : i ≤ l.length) (hlo : ∀ a ∈ l.take i, a.1 < key) (hhi : ∀ a ∈ l.drop i, ¬ a.1 < key) : posC l key = i := by
  unfold posC
  have e : l.filter (fun c => decide (c.1 < key)) = l.take i := by
    have h1 := List.filter_eq_self.2 (fun a ha => decide_eq_true (hlo a ha))
    have h2 := List.filter_eq_nil_iff.2 (fun a ha => by simpa using hhi a ha : ∀ a ∈ l.drop i, ¬ (decide (a.1 < key) = true))
    calc l.filter (fun c => decide (c.1 < key)) = (l.take i ++ l.drop i).filter (fun c => decide (c.1 < key)) := by rw [List.take_append_drop]
      _ = _ := by rw [List.filter_append, h1, h2, List.append_nil]
  rw [e, List.length_take, Nat.min_eq_left hi]
theorem lo_stepC {l : List Cel} {key : Bs} {m : Nat} {a : Cel} (hs : Rises l) (hx : l[m]? = some a) (h : a.1 < key) : ∀ b ∈ l.take (m + 1), b.1 < key := by
  rw [take_succ_of hx]
  intro b hb
  rcases List.mem_append.1 hb with e | e
  · obtain ⟨j, hj⟩ := List.mem_iff_getElem?.1 e
    rw [List.getElem?_take] at hj
    split at hj
    · obtain ⟨h1, h2⟩ := List.getElem?_eq_some_iff.1 hj
      obtain ⟨h3, h4⟩ := List.getElem?_eq_some_iff.1 hx
      have := List.pairwise_iff_getElem.1 hs j m h1 h3 (by assumption)
      rw [h2, h4] at this
      exact bs_tr this h
    · cases hj
  · rw [List.mem_singleton.1 e]; exact h
theorem hi_stepC {l : List Cel} {key : Bs} {m : Nat} {a : Cel} (hs : Rises l) (hx : l[m]? = some a) (h : ¬ a.1 < key) : ∀ b ∈ l.drop m, ¬ b.1 < key := by
  intro b hb hlt
  obtain ⟨j, hj⟩ := List.mem_iff_getElem?.1 hb
  rw [List.getElem?_drop] at hj
  obtain ⟨h1, h2⟩ := List.getElem?_eq_some_iff.1 hj
  obtain ⟨h3, h4⟩ := List.getElem?_eq_some_iff.1 hx
  rcases Nat.eq_zero_or_pos j with e | e
  · subst e
    rw [Nat.add_zero, hx] at hj; cases hj; exact h hlt
  · have := List.pairwise_iff_getElem.1 hs m (m + j) h3 h1 (by omega)
    rw [h2, h4] at this
    exact h (bs_tr this hlt)
theorem hasC_yes {l : List Cel} {key : Bs} {i : Nat} {a : Cel} (hx : l[i]? = some a) (h : a.1 = key) : hasC l key = true := by
  unfold hasC; exact List.any_eq_true.2 ⟨a, List.mem_of_getElem? hx, decide_eq_true h⟩
theorem hasC_no {l : List Cel} {key : Bs} {i : Nat} (hs : Rises l) (hlo : ∀ a ∈ l.take i, a.1 < key) (hhi : ∀ a ∈ l.drop i, ¬ a.1 < key) (h : ∀ a, l[i]? = some a → a.1 ≠ key) : hasC l key = false := by
  unfold hasC
  rw [List.any_eq_false]
  intro b hb
  rw [decide_eq_true_iff]
  intro e
  rw [← List.take_append_drop i l] at hb
  rcases List.mem_append.1 hb with g | g
  · have := hlo b g; rw [e] at this; exact bs_irr _ this
  · obtain ⟨j, hj⟩ := List.mem_iff_getElem?.1 g
    rw [List.getElem?_drop] at hj
    rcases Nat.eq_zero_or_pos j with z | z
    · subst z; rw [Nat.add_zero] at hj; exact h b hj e
    · obtain ⟨h1, h2⟩ := List.getElem?_eq_some_iff.1 hj
      have h3 : i < l.length := by omega
      have h4 := List.pairwise_iff_getElem.1 hs i (i + j) h3 h1 (by omega)
      rw [h2, e] at h4
      exact hhi l[i] (by rw [List.drop_eq_getElem_cons h3]; exact List.mem_cons_self ..) h4
/-- a key that is there stands at its place -/
theorem hasC_at {l : List Cel} {key : Bs} (hs : Rises l) (h : hasC l key = true) : posC l key < l.length ∧ ∃ v, l[(posC l key).toNat]? = some (key, v) := by
  obtain ⟨c, hc, he⟩ := List.any_eq_true.1 h
  have he := of_decide_eq_true he
  obtain ⟨j, hj⟩ := List.mem_iff_getElem?.1 hc
  obtain ⟨h1, h2⟩ := List.getElem?_eq_some_iff.1 hj
  have e : posC l key = j := posC_at (by omega) (fun a ha => by
    obtain ⟨m, hm⟩ := List.mem_iff_getElem?.1 ha
    rw [List.getElem?_take] at hm
    split at hm
    · obtain ⟨h3, h4⟩ := List.getElem?_eq_some_iff.1 hm
      have := List.pairwise_iff_getElem.1 hs m j h3 h1 (by assumption)
      rw [h4, h2, he] at this; exact this
    · cases hm) (fun a ha => by
    obtain ⟨m, hm⟩ := List.mem_iff_getElem?.1 ha
    rw [List.getElem?_drop] at hm
    obtain ⟨h3, h4⟩ := List.getElem?_eq_some_iff.1 hm
    rcases Nat.eq_zero_or_pos m with z | z
    · subst z; rw [Nat.add_zero, hj] at hm; cases hm; rw [he]; exact bs_irr _
    · have := List.pairwise_iff_getElem.1 hs j (j + m) h1 h3 (by omega)
      rw [h2, h4, he] at this
      exact fun g => bs_irr _ (bs_tr this g))
  rw [e]
  refine ⟨by omega, c.2, ?_⟩
  rw [show ((j : Int)).toNat = j by omega, hj, ← he]
/-! ### a key's value, and a page with another one -/
def getC : List Cel → Bs → Bool × Bs
  | [], _ => (false, [])
  | c :: t, key => if c.1 = key then (true, c.2) else getC t key
theorem getC_skip {l : List Cel} {key : Bs} {k : Nat} {c : Cel} {X : Bool × Bs} (h : X = getC (l.drop k) key) (hx : l[k]? = some c) (hc : ¬ c.1 = key) : X = getC (l.drop (k + 1)) key := by
  obtain ⟨h1, h2⟩ := List.getElem?_eq_some_iff.1 hx
  rw [h, List.drop_eq_getElem_cons h1, h2, getC, if_neg hc]
theorem getC_hit {l : List Cel} {key : Bs} {k : Nat} {c : Cel} {X : Bool × Bs} (h : X = getC (l.drop k) key) (hx : l[k]? = some c) (hc : c.1 = key) : X = (true, c.2) := by
  obtain ⟨h1, h2⟩ := List.getElem?_eq_some_iff.1 hx
  rw [h, List.drop_eq_getElem_cons h1, h2, getC, if_pos hc]
theorem getC_end {l : List Cel} {key : Bs} {k : Nat} {X : Bool × Bs} (h : X = getC (l.drop k) key) (hk : k = l.length) : X = (false, []) := by
  rw [h, hk, List.drop_length, getC]
/-- the cells, a key having that value, or none -/
def setC (l : List Cel) (key : Bs) (v : Bool × Bs) : List Cel :=
  if v.1 = true then (if hasC l key = true then l.set (posC l key).toNat (key, v.2) else insAt l (posC l key).toNat (key, v.2))
  else l.take (posC l key).toNat ++ l.drop ((posC l key).toNat + 1)
def setE (no gsn : Int) (l : List Cel) (key : Bs) (v : Bool × Bs) (g : Int) : Int :=
  if (pageR no gsn l && keyR key && valR v && decide (gsn < g ∧ g ≤ 4611686018427387903)) = true then
    (if v.1 = false ∧ hasC l key = false then 7 else if v.1 = true ∧ hasC l key = false ∧ 8 ≤ l.length then 4 else 0)
  else 1
end Go.Q
