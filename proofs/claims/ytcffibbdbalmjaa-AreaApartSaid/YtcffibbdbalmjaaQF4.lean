/-
  A region that draws its order, of which the last operations come one behind the other.
-/
import Derived.Test.YtcffibbdbalmjaaQF3
set_option linter.unusedVariables false
set_option linter.unusedSimpArgs false
namespace Go.Q
/-- From m on each operation comes behind all that are ahead of it. -/
def seqB (ops : List Oper) (m : Nat) : Bool := (List.range' m (ops.length - m)).all fun i => (List.range i).all fun j => anc ops ops.length i j
theorem seqB_spec {ops : List Oper} {m : Nat} (h : seqB ops m = true) : ∀ i j, m ≤ i → i < ops.length → j < i → anc ops ops.length i j = true := fun i j h1 h2 h3 => by
  unfold seqB at h
  rw [List.all_eq_true] at h
  have := h i (List.mem_range'_1.2 (by omega))
  rw [List.all_eq_true] at this
  exact this j (List.mem_range.2 h3)
theorem seq_any {P : Program} {Q : Exit → Act → World → Prop} {ops : List Oper} (hok : flowOk3 ops = true) : ∀ (n k : Nat) (listed : Array Bool) (a : Act) (w : World), k + n = ops.length → listed.size = ops.length → (∀ i, i < k → listed.getD i false = true) → (∀ i, k ≤ i → listed.getD i false = false) →
    (∀ i j, k ≤ i → i < ops.length → j < i → anc ops ops.length i j = true) → wpOps P ops.toArray Q (List.range' k n) a w → ∀ fuel, n ≤ fuel → wpAny P .any ops.toArray Q fuel listed a w
  | 0, k, listed, a, w, hk, hsz, hall, hnot, hsq, h, fuel, hf => by
    have hr : Region.ready .any ops.toArray listed = [] := by
      rw [List.eq_nil_iff_forall_not_mem]
      intro i hi
      obtain ⟨h0, o, ho, _⟩ := mem_ready.1 hi
      have hlt : i < ops.length := by simpa using (Array.getElem?_eq_some_iff.1 ho).1
      have h1 := hall i (by omega)
      have hs : i < listed.size := by omega
      simp [hs] at h0 h1; rw [h0] at h1; cases h1
    cases fuel with
    | zero => exact ⟨hr, h⟩
    | succ f => exact ⟨fun _ => h, fun i hi => by rw [hr] at hi; cases hi⟩
  | n + 1, k, listed, a, w, hk, hsz, hall, hnot, hsq, h, fuel, hf => by
    obtain ⟨f, rfl⟩ : ∃ f, fuel = f + 1 := ⟨fuel - 1, by omega⟩
    have hlk : k < ops.length := by omega
    have hcl : ∀ i, listed.getD i false = true → ∀ d ∈ depsOf ops i, listed.getD d false = true := fun i hi d hd => by
      have hik : i < k := by
        rcases Nat.lt_or_ge i k with g | g
        · exact g
        · rw [hnot i g] at hi; cases hi
      have := (flowOk3_spec hok (List.getElem?_eq_getElem (show i < ops.length by omega))).1 d hd
      exact hall d (by omega)
    have hkr : k ∈ Region.ready .any ops.toArray listed := by
      refine mem_ready.2 ⟨?_, ops[k], by simp [hlk], fun e he hb => ?_⟩
      · have h1 := hnot k (Nat.le_refl _)
        have hs : k < listed.size := by omega
        simp [hs] at h1 ⊢; exact h1
      · have hd := mem_depsOf (List.getElem?_eq_getElem hlk) he hb
        exact hall _ ((flowOk3_spec hok (List.getElem?_eq_getElem hlk)).1 _ hd)
    refine ⟨fun hr => (by rw [hr] at hkr; cases hkr), fun i hi => ?_⟩
    obtain ⟨h0, o, ho, hdone⟩ := mem_ready.1 hi
    have hlt : i < ops.length := by simpa using (Array.getElem?_eq_some_iff.1 ho).1
    have hli : listed.getD i false = false := by
      have hs : i < listed.size := by omega
      simp [hs] at h0 ⊢; exact h0
    have hdeps : ∀ d ∈ depsOf ops i, listed.getD d false = true := by
      intro d hd
      unfold depsOf at hd
      rw [show ops[i]? = some o by simpa using ho] at hd
      obtain ⟨e, he, heq⟩ := List.mem_filterMap.1 hd
      split at heq
      · cases heq; exact hdone e (by simpa using he) (by assumption)
      · cases heq
    have hik : i = k := by
      rcases Nat.lt_trichotomy i k with g | g | g
      · rw [hall i g] at hli; cases hli
      · exact g
      · have := anc_trans3 hok hcl _ i k (hsq i k (by omega) hlt g) hdeps
        rw [hnot k (Nat.le_refl _)] at this; cases this
    subst hik
    rw [List.range'_succ, wpOps_cons] at h
    refine wpOp_mono (fun a' w' h' => ?_) h
    refine seq_any hok n (i + 1) _ a' w' (by omega) (by simpa using hsz) (fun j hj => ?_) (fun j hj => ?_) (fun j l h1 h2 h3 => hsq j l (by omega) h2 h3) h' f (by omega)
    · by_cases e : i = j
      · subst e
        have : i < listed.size := by omega
        simp [this]
      · rw [getD_set_ne false e]; exact hall j (by omega)
    · rw [getD_set_ne false (show i ≠ j by omega)]; exact hnot j (by omega)
theorem c_flow4 {P : Program} {Q : Exit → Act → World → Prop} {E w : World} {N : Nat} {r : Nat → Value} {id : Nat} {ops : List Oper} (F : List (List Hp)) (C : Nat → List Hp) (Tp : Nat → Value → List Hp → (Nat → Value) → Prop)
    (hm : P.follows .mixedOrders = true) (m : Nat) (hok : flowOk3 ops = true) (hml : m ≤ ops.length) (hsqb : seqB ops m = true) (H : Has E w (F ++ (List.range ops.length).map C))
    (step : ∀ i o, i < m → ops[i]? = some o → ∀ r' w' G hs, Turn3 E ops F C Tp N r i r' w' G hs → GOK P ops o N r' w' fun v w'' => ∃ h', Tp i (match o.dst with | some _ => v | none => undef) h' (msk ops i (vsOf ops r')) ∧ Has E w'' (h' :: G))
    (fin : ∀ (vs : Nat → Value) (hs : Nat → List Hp) w', (∀ i o, i < m → ops[i]? = some o → Tp i (vs i) (hs i) (msk ops i vs)) → (∀ i, m ≤ i → i < ops.length → hs i = C i) → Has E w' (F ++ (List.range ops.length).map hs) → wpList P ops.toArray Q (ops.drop m) (Go.Q.fr N (puts vs (ops.take m) 0 r)) w') :
    (Code.region id ops.toArray true).wp P Q (Go.Q.fr N r) w := by
  have hsq := seqB_spec hsqb
  refine wp_region_any hm ?_
  -- the state while some are done
  let Inv : Array Bool → Act → World → Prop := fun listed a w => listed.size = ops.length ∧ (∀ i, m ≤ i → listed.getD i false = false) ∧ (∀ i, listed.getD i false = true → ∀ d ∈ depsOf ops i, listed.getD d false = true) ∧
    ∃ r' hs, a = Go.Q.fr N r' ∧ Has E w (F ++ (List.range ops.length).map hs) ∧ (∀ i o, ops[i]? = some o → if listed.getD i false = true then o.dst.isSome = true ∧ Tp i (slot r' o) (hs i) (msk ops i (vsOf ops r')) ∨ o.dst = none ∧ Tp i undef (hs i) (msk ops i (vsOf ops r')) else hs i = C i) ∧
    (∀ t, (∀ i o, ops[i]? = some o → o.dst = some t → listed.getD i false = false) → r' t = r t)
  have key : ∀ fuel listed a w, Inv listed a w → (List.range ops.length).countP (fun i => !listed.getD i false) ≤ fuel → wpAny P .any ops.toArray Q fuel listed a w := by
    have ready0 : ∀ listed : Array Bool, listed.size = ops.length → Region.ready .any ops.toArray listed = [] → ∀ i, i < ops.length → listed.getD i false = true := by
      intro listed hsz hr i
      induction i using Nat.strongRecOn with
      | _ i ih =>
        intro hi
        cases hl : listed.getD i false with
        | true => rfl
        | false =>
          exfalso
          obtain ⟨o, ho⟩ : ∃ o, ops[i]? = some o := ⟨_, List.getElem?_eq_getElem hi⟩
          have : i ∈ Region.ready .any ops.toArray listed := by
            refine mem_ready.2 ⟨?_, o, by simpa using ho, fun e he hb => ?_⟩
            · have : i < listed.size := by omega
              simp [this] at hl ⊢; exact hl
            · have hd := mem_depsOf ho he hb
              have hlt := (flowOk3_spec hok ho).1 _ hd
              exact ih _ hlt (by omega)
          rw [hr] at this; cases this
    have fin' : ∀ fuel listed a w, Inv listed a w → (List.range ops.length).countP (fun i => !listed.getD i false) ≤ fuel → (∀ i, i < m → listed.getD i false = true) → wpAny P .any ops.toArray Q fuel listed a w := by
      rintro fuel listed a w ⟨hsz, hnot, _, r', hs, rfl, hH, hT, hold⟩ hc hall
      let vs : Nat → Value := vsOf ops r'
      have htk : ∀ j o', (ops.take m)[j]? = some o' → ops[j]? = some o' ∧ j < m := fun j o' hj => by
        rw [List.getElem?_take] at hj
        split at hj
        · exact ⟨hj, by assumption⟩
        · cases hj
      have e : Go.Q.fr N r' = Go.Q.fr N (puts vs (ops.take m) 0 r) := by
        refine fr_congr fun t _ => ?_
        by_cases hex : ∃ (i : Nat) (o : Oper), (ops.take m)[i]? = some o ∧ o.dst = some t
        · obtain ⟨i, o, ho, hd⟩ := hex
          rw [puts_new vs (ops.take m) 0 i r o t ho hd (fun j o' hj hne => (flowOk3_spec hok (htk i o ho).1).2 j o' t (htk j o' hj).1 hne hd)]
          simp [vs, vsOf, (htk i o ho).1, slot, hd]
        · rw [puts_old vs (ops.take m) 0 r t (fun o ho hd => by obtain ⟨j, hj⟩ := List.getElem?_of_mem ho; exact hex ⟨j, o, hj, hd⟩)]
          refine hold t (fun i o ho hd => ?_)
          rcases Nat.lt_or_ge i m with g | g
          · exact absurd ⟨i, o, by rw [List.getElem?_take, if_pos g]; exact ho, hd⟩ hex
          · exact hnot i g
      have hw := fin vs hs w (fun i o hi ho => by
        have := hT i o ho
        rw [if_pos (hall i hi)] at this
        have hvs : vs i = slot r' o := by simp only [vs, vsOf, ho]
        rw [hvs]
        rcases this with ⟨_, h⟩ | ⟨hn, h⟩
        · exact h
        · unfold slot; rw [hn]; exact h) (fun i hi hl => by
        have := hT i _ (List.getElem?_eq_getElem hl)
        rw [if_neg (by rw [hnot i hi]; simp)] at this; exact this) hH
      rw [← e] at hw
      have hcount : ops.length - m ≤ (List.range ops.length).countP (fun i => !listed.getD i false) := by
        have : List.range ops.length = List.range m ++ List.range' m (ops.length - m) := by
          have := List.range'_append_1 (s := 0) (m := m) (n := ops.length - m)
          rw [Nat.zero_add] at this
          rw [List.range_eq_range', List.range_eq_range', this]; congr 1; omega
        rw [this, List.countP_append]
        have h2 : (List.range' m (ops.length - m)).countP (fun i => !listed.getD i false) = (List.range' m (ops.length - m)).length := by
          rw [List.countP_eq_length]
          intro i hi
          rw [hnot i (by have := List.mem_range'_1.1 hi; omega)]; rfl
        rw [h2, List.length_range']; omega
      refine seq_any hok (ops.length - m) m listed _ w (by omega) hsz hall hnot hsq ?_ fuel (by omega)
      have := wpOps_eq_wpList (P := P) (Q := Q) (ops := ops.toArray) (ops.drop m) m (fun j => by simp)
      rw [List.length_drop] at this
      rw [this]; exact hw
    intro fuel
    induction fuel with
    | zero =>
      intro listed a w hI hc
      refine fin' 0 listed a w hI hc fun i hi => ?_
      cases hl : listed.getD i false with
      | true => rfl
      | false =>
        have hp : 0 < (List.range ops.length).countP (fun i => !listed.getD i false) := List.countP_pos_iff.2 ⟨i, List.mem_range.2 (by omega), by rw [hl]; rfl⟩
        omega
    | succ fuel ih =>
      intro listed a w hI hc
      by_cases hall : ∀ i, i < m → listed.getD i false = true
      · exact fin' _ listed a w hI hc hall
      refine ⟨fun hr => absurd (fun i hi => ready0 listed hI.1 hr i (by omega)) hall, fun i hi => ?_⟩
      obtain ⟨hsz, hnot, hcl, r', hs, rfl, hH, hT, hold⟩ := hI
      obtain ⟨h0, o, ho', hdone⟩ := mem_ready.1 hi
      have ho : ops[i]? = some o := by simpa using ho'
      have hlt : i < ops.length := (List.getElem?_eq_some_iff.1 ho).1
      have hli : listed.getD i false = false := by
        have hs : i < listed.size := by omega
        simp [hs] at h0 ⊢; exact h0
      obtain ⟨hdlt, hdist⟩ := flowOk3_spec hok ho
      have hdeps : ∀ d ∈ depsOf ops i, listed.getD d false = true := by
        intro d hd
        unfold depsOf at hd
        rw [ho] at hd
        obtain ⟨e, he, heq⟩ := List.mem_filterMap.1 hd
        split at heq
        · cases heq; exact hdone e (by simpa using he) (by assumption)
        · cases heq
      have him : i < m := by
        rcases Nat.lt_or_ge i m with g | g
        · exact g
        · exact absurd (fun j hj => anc_trans3 hok hcl _ i j (hsq i j g hlt (by omega)) hdeps) hall
      -- the heaplets: the one at i in front
      let G : List (List Hp) := F ++ ((List.range i).map hs ++ (List.range' (i + 1) (ops.length - (i + 1))).map hs)
      have hsplit : List.range ops.length = List.range i ++ i :: List.range' (i + 1) (ops.length - (i + 1)) := by
        rw [List.range_eq_range', List.range_eq_range', show i :: List.range' (i + 1) (ops.length - (i + 1)) = List.range' i (ops.length - i) from by
          rw [show ops.length - i = (ops.length - (i + 1)) + 1 by omega, List.range'_succ]]
        have := List.range'_append_1 (s := 0) (m := i) (n := ops.length - i)
        rw [Nat.zero_add] at this
        rw [this]; congr 1; omega
      have mapsplit : ∀ f : Nat → List Hp, (List.range ops.length).map f = (List.range i).map f ++ f i :: (List.range' (i + 1) (ops.length - (i + 1))).map f := by
        intro f; rw [hsplit]; simp
      have hperm : ∀ f : Nat → List Hp, (F ++ (List.range ops.length).map f).Perm (f i :: (F ++ ((List.range i).map f ++ (List.range' (i + 1) (ops.length - (i + 1))).map f))) := by
        intro f
        rw [mapsplit f, ← List.append_assoc, ← List.append_assoc]
        exact List.perm_middle
      have hhi : hs i = C i := by have := hT i o ho; rw [if_neg (by rw [hli]; simp)] at this; exact this
      have inG : ∀ j, j < ops.length → j ≠ i → hs j ∈ G := by
        intro j hj hne
        refine List.mem_append_right _ ?_
        rcases Nat.lt_or_gt_of_ne hne with h | h
        · exact List.mem_append_left _ (List.mem_map.2 ⟨j, List.mem_range.2 h, rfl⟩)
        · exact List.mem_append_right _ (List.mem_map.2 ⟨j, by rw [List.mem_range'_1]; omega, rfl⟩)
      have subG : ∀ s ∈ G, s ⊆ G.flatten := fun s hs' x hx => List.mem_flatten.2 ⟨s, hs', hx⟩
      have ancNe : ∀ j, listed.getD j false = true → j ≠ i := fun j hj e => by rw [e, hli] at hj; cases hj
      have turn : Turn3 E ops F C Tp N r i r' w G hs := by
        refine ⟨?_, fun s hs' => subG s (List.mem_append_left _ hs'), fun j oj hoj hanc => ?_, fun j hanc => ?_, fun t ht => ?_, fun j oj hoj hne => ?_⟩
        · rw [← hhi]; exact hH.perm (hperm hs).symm
        · have hl := anc_trans3 hok hcl _ i j hanc hdeps
          refine ⟨?_, subG _ (inG j (List.getElem?_eq_some_iff.1 hoj).1 (ancNe j hl))⟩
          have := hT j oj hoj
          rw [if_pos hl] at this
          rcases this with ⟨_, h⟩ | ⟨hn, h⟩
          · exact h
          · unfold slot; rw [hn]; exact h
        · cases hj : ops[j]? with
          | none =>
            exfalso
            unfold anc at hanc
            split at hanc
            · cases hanc
            · simp [depsOf, hj] at hanc
          | some oj =>
            have hnl : listed.getD j false = false := by
              cases hl : listed.getD j false with
              | false => rfl
              | true =>
                have := anc_trans3 hok hcl _ j i hanc (hcl j hl)
                rw [hli] at this; cases this
            have hjl := (List.getElem?_eq_some_iff.1 hj).1
            have hne : j ≠ i := by
              rintro rfl
              have := anc_trans3 hok hcl _ j j hanc hdeps
              rw [hli] at this; cases this
            have := hT j oj hj
            rw [if_neg (by rw [hnl]; simp)] at this
            rw [← this]; exact subG _ (inG j hjl hne)
        · refine hold t (fun j oj hoj hd => ?_)
          rcases ht j oj hoj hd with rfl | hanc
          · exact hli
          · cases hl : listed.getD j false with
            | false => rfl
            | true =>
              have := anc_trans3 hok hcl _ j i hanc (hcl j hl)
              rw [hli] at this; cases this
        · have hG := subG _ (inG j (List.getElem?_eq_some_iff.1 hoj).1 hne)
          have := hT j oj hoj
          cases hl : listed.getD j false with
          | true =>
            rw [if_pos hl] at this
            rcases this with ⟨_, h⟩ | ⟨_, h⟩
            · exact .inr ⟨⟨_, _, h⟩, hG⟩
            · exact .inr ⟨⟨_, _, h⟩, hG⟩
          | false =>
            rw [if_neg (by rw [hl]; simp)] at this
            rw [← this]; exact .inl hG
      have hstep := step i o him ho r' w G hs turn
      have hnext : ∀ (v : Value) (w'' : World), (∃ h', Tp i (match o.dst with | some _ => v | none => undef) h' (msk ops i (vsOf ops r')) ∧ Has E w'' (h' :: G)) →
          wpAny P .any ops.toArray Q fuel (listed.setIfInBounds i true) ((Go.Q.fr N r').put o.dst v) w'' := ?_
      · exact GOK.wp ho' hstep hnext
      rintro v w'' ⟨h', hTi, hH'⟩
      refine ih _ _ _ ⟨by simpa using hsz, fun j hj => by rw [getD_set_ne false (show i ≠ j by omega)]; exact hnot j hj, ?_, ?_⟩ ?_
      · intro j hj d hd
        by_cases hji : i = j
        · subst hji; exact getD_set_true (hdeps d hd)
        · rw [getD_set_ne false hji] at hj
          exact getD_set_true (hcl j hj d hd)
      · let hs' : Nat → List Hp := fun j => if j = i then h' else hs j
        have hsG : F ++ ((List.range i).map hs' ++ (List.range' (i + 1) (ops.length - (i + 1))).map hs') = G := by
          have e1 : (List.range i).map hs' = (List.range i).map hs := List.map_congr_left fun j hj => by
            have := List.mem_range.1 hj; simp only [hs']; rw [if_neg (by omega)]
          have e2 : (List.range' (i + 1) (ops.length - (i + 1))).map hs' = (List.range' (i + 1) (ops.length - (i + 1))).map hs := List.map_congr_left fun j hj => by
            have := List.mem_range'_1.1 hj; simp only [hs']; rw [if_neg (by omega)]
          rw [e1, e2]
        have hH2 : Has E w'' (F ++ (List.range ops.length).map hs') := by
          refine hH'.perm ((hperm hs').trans ?_)
          rw [hsG]
          simp [hs']
        have hset : ∀ j, j ≠ i → (listed.setIfInBounds i true).getD j false = listed.getD j false := fun j hj => getD_set_ne false (Ne.symm hj)
        have hseti : (listed.setIfInBounds i true).getD i false = true := by
          have : i < listed.size := by omega
          simp [this]
        cases hd : o.dst with
        | none =>
          refine ⟨r', hs', by rw [fr_put_none], hH2, fun j oj hoj => ?_, fun t ht => hold t fun j oj hoj hdj => ?_⟩
          · by_cases hji : j = i
            · subst hji
              rw [ho] at hoj; cases hoj
              rw [if_pos hseti]
              rw [hd] at hTi
              exact .inr ⟨hd, by simpa [hs'] using hTi⟩
            · rw [hset j hji]
              have := hT j oj hoj
              simpa [hs', hji] using this
          · by_cases hji : j = i
            · subst hji; exact hli
            · have := ht j oj hoj hdj; rwa [hset j hji] at this
        | some d =>
          refine ⟨upd r' d v, hs', by rw [fr_put], hH2, fun j oj hoj => ?_, fun t ht => ?_⟩
          · by_cases hji : j = i
            · subst hji
              rw [ho] at hoj; cases hoj
              rw [if_pos hseti]
              refine .inl ⟨by rw [hd]; rfl, ?_⟩
              rw [hd] at hTi
              rw [msk_upd3 hok ho hd (fun k hk => ancNe k (anc_trans3 hok hcl _ j k hk hdeps))]
              simp only [slot, hd, upd_same, hs', if_true]; exact hTi
            · rw [hset j hji]
              have := hT j oj hoj
              have hne : oj.dst ≠ some d := hdist j oj d hoj hji hd
              have hsl : slot (upd r' d v) oj = slot r' oj := by
                unfold slot
                cases hdj : oj.dst with
                | none => rfl
                | some t => exact upd_ne _ _ (fun e => hne (by rw [hdj, e]))
              cases hlj : listed.getD j false with
              | true =>
                rw [msk_upd3 hok ho hd (fun k hk => ancNe k (anc_trans3 hok hcl _ j k hk (hcl j hlj)))]
                simpa [hs', hji, hsl, hlj] using this
              | false => simpa [hs', hji, hlj] using this
          · have hne : t ≠ d := by
              rintro rfl
              have := ht i o ho hd
              rw [hseti] at this; cases this
            rw [upd_ne _ _ hne]
            refine hold t fun j oj hoj hdj => ?_
            by_cases hji : j = i
            · subst hji; exact hli
            · have := ht j oj hoj hdj; rwa [hset j hji] at this
      · have : (List.range ops.length).countP (fun j => !(listed.setIfInBounds i true).getD j false) < (List.range ops.length).countP (fun j => !listed.getD j false) := by
          have hset : ∀ j, j ≠ i → (listed.setIfInBounds i true).getD j false = listed.getD j false := fun j hj => getD_set_ne false (Ne.symm hj)
          have hseti : (listed.setIfInBounds i true).getD i false = true := by
            have : i < listed.size := by omega
            simp [this]
          rw [hsplit, List.countP_append, List.countP_cons, List.countP_append, List.countP_cons, hseti, hli]
          have e1 : (List.range i).countP (fun j => !(listed.setIfInBounds i true).getD j false) = (List.range i).countP (fun j => !listed.getD j false) :=
            List.countP_congr fun j hj => by have := List.mem_range.1 hj; rw [hset j (by omega)]
          have e2 : (List.range' (i + 1) (ops.length - (i + 1))).countP (fun j => !(listed.setIfInBounds i true).getD j false) = (List.range' (i + 1) (ops.length - (i + 1))).countP (fun j => !listed.getD j false) :=
            List.countP_congr fun j hj => by have := List.mem_range'_1.1 hj; rw [hset j (by omega)]
          rw [e1, e2]; simp
        omega
  have h0 : Inv (Array.replicate ops.toArray.size false) (Go.Q.fr N r) { w with drawn := w.drawn + 1 } := by
    have hf : ∀ i, (Array.replicate ops.toArray.size false).getD i false = false := by
      intro i; by_cases h : i < ops.length <;> simp [h]
    refine ⟨by simp, fun i _ => hf i, fun i hi => ?_, r, C, rfl, H.drew _, fun i o _ => ?_, fun _ _ => rfl⟩
    · rw [hf] at hi; cases hi
    · rw [if_neg (by rw [hf]; simp)]
  refine key _ _ _ _ h0 ?_
  refine Nat.le_trans List.countP_le_length (by simp)

end Go.Q
