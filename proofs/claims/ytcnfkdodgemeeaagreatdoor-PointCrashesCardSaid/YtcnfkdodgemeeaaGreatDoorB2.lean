/-
  Parts of a walk: what functions of the program compute, each told by a theorem (Qzd2, QF2, QF3, QF4, QF5, QF6, QF7, Qzd3, QzSh3, Qzd1b, Qzd4, Qzd4s, Qzd4l, Qzd5, Qzd6).
-/
import Derived.Test.YtcnfkdodgemeeaaGreatDoorB1
import Derived.Shelf.SlIterI.Sorted
import Derived.Shelf.SortM.Plain
import Derived.Shelf.SortM.SortNone
import Derived.Maps.Range
set_option linter.unusedVariables false
set_option linter.unusedSimpArgs false
set_option linter.unnecessarySimpa false
namespace Go.Q
open Go.Proofs
set_option linter.unusedVariables false
set_option maxRecDepth 100000
attribute [local irreducible] wpList OK Code.wp
set_option maxHeartbeats 4000000 in
theorem blank_c {E w : World} {R : List Hp} (hH : Has E w [R]) :
    Calls Tryz.prog 41 #[] w fun e w' => e = .returned (S blankS) ∧ Has E w' [R] := by
  refine c_enter (args := []) Tryz.func41 rfl Tryz.ntmps41 (by simp) ?_
  refine wp_seq_k fun K1 hK1 => ?_
  refine c_region ?_
  refine s_op (o_assign (v := (S ([] : List UInt8))) rfl ?_)
  refine s_nil ?_
  refine t_norm (hK1 _ _ ?_)
  refine wp_seq_k fun K2 hK2 => ?_
  refine c_region ?_
  refine s_op (o_callf (vs := #[(S [0]), (.int .i64 64)]) ca39 rfl (args2 rfl rfl) (repeat_c hH.all 64 (by decide)) ?_)
  rintro _ w5 ⟨rfl, hX3⟩
  refine ⟨_, rfl, ?_⟩
  have hH4 := hX3.of_all
  refine s_op (o_assign (v := (S blankS)) rfl ?_)
  refine s_nil ?_
  refine t_norm (hK2 _ _ ?_)
  refine wp_ret ?_
  refine c_ret1 Tryz.results41  (v := (S blankS)) rfl ?_
  exact ⟨rfl, hH4⟩
set_option maxHeartbeats 4000000 in
theorem filled_c {E w : World} {R : List Hp} (hH : Has E w [R]) {v : Value} {l : List Bs} (hv : Sl R 1 v l.length (l.map sV)) (hn : l.length ≤ 1000000) (hl : l.flatten.length ≤ 1000000000) :
    Calls Tryz.prog 42 #[v] w fun e w' => e = .returned (.tuple #[S (if l.flatten.length ≤ 64 then fillS l.flatten else []), .bool (decide (l.flatten.length ≤ 64))]) ∧ Has E w' [R] := by
  have hn_ := hv.le
  have hb64 := blank_len
  refine c_enter (args := [v]) Tryz.func42 rfl Tryz.ntmps42 (by simp) ?_
  refine wp_seq_k fun K1 hK1 => ?_
  refine c_region ?_
  refine s_op (o_assign (v := (S ([] : List UInt8))) rfl ?_)
  refine s_op (o_assign (v := (.bool false)) rfl ?_)
  refine s_nil ?_
  refine t_norm (hK1 _ _ ?_)
  refine wp_seq_k fun K2 hK2 => ?_
  refine c_region ?_
  refine s_op (o_move (v := v) rfl ?_)
  refine s_op (o_callf (vs := #[v, (S ([] : List UInt8))]) ca59 rfl (args2 rfl rfl) (join_c hH.all (l := l) (hv.mono (seg_sub 0 rfl)) (by omega) (by omega)) ?_)
  rintro _ w5 ⟨rfl, hX3⟩
  refine ⟨_, rfl, ?_⟩
  have hH4 := hX3.of_all
  refine s_op (o_assign (v := (S l.flatten)) rfl ?_)
  refine s_nil ?_
  refine t_norm (hK2 _ _ ?_)
  refine wp_seq_k fun K6 hK6 => ?_
  refine wp_seq_k fun K7 hK7 => ?_
  refine c_region ?_
  refine s_op (o_move (v := (S l.flatten)) rfl ?_)
  refine s_op (o_slen Tryz.underlying9 rfl ?_)
  refine s_op (o_gtr (a := (l.flatten.length : Int)) (b := 64) rfl rfl ?_)
  refine s_nil ?_
  refine t_norm (hK7 _ _ ?_)
  refine c_cond rfl (fun h8 => ?_) (fun h8 => ?_)
  · -- 64 < (l.flatten.length : Int)
    refine wp_seq_k fun K9 hK9 => ?_
    refine c_region ?_
    refine s_op (o_assign (v := (S ([] : List UInt8))) rfl ?_)
    refine s_op (o_assign (v := (.bool false)) rfl ?_)
    refine s_nil ?_
    refine t_norm (hK9 _ _ ?_)
    refine wp_ret ?_
    refine t_ret (c_ret2 Tryz.results42  (v := (S ([] : List UInt8))) rfl (x := (.bool false)) rfl ?_)
    exact ⟨by rw [if_neg (by omega), decide_eq_false (by omega)], hH4⟩
  · -- not: 64 < (l.flatten.length : Int)
    refine wp_skip ?_
    refine t_norm (hK6 _ _ ?_)
    refine wp_seq_k fun K10 hK10 => ?_
    refine c_region ?_
    refine s_op (o_move (v := (S l.flatten)) rfl ?_)
    refine s_op (o_callf (vs := #[]) ca41 rfl (args0) (blank_c hH4.all) ?_)
    rintro _ w13 ⟨rfl, hX11⟩
    refine ⟨_, rfl, ?_⟩
    have hH12 := hX11.of_all
    refine s_op (o_move (v := (S l.flatten)) rfl ?_)
    refine s_op (o_slen Tryz.underlying9 rfl ?_)
    refine s_op (o_ssl_l Tryz.underlying9 rfl rfl (by omega) (by first | omega | (rw [blank_len]; omega)) ?_)
    refine s_op (o_sadd rfl rfl (by rw [List.length_drop, blank_len]; omega) ?_)
    refine s_op (o_assign (v := (S (l.flatten ++ (blankS.drop ((l.flatten.length : Int)).toNat)))) rfl ?_)
    refine s_op (o_assign (v := (.bool true)) rfl ?_)
    refine s_nil ?_
    refine t_norm (hK10 _ _ ?_)
    refine wp_ret ?_
    refine c_ret2 Tryz.results42  (v := (S (l.flatten ++ (blankS.drop ((l.flatten.length : Int)).toNat)))) rfl (x := (.bool true)) rfl ?_
    exact ⟨by rw [if_pos (by omega), decide_eq_true (by omega)]; rfl, hH12⟩
end Go.Q
namespace Go.Q
/-- what the operations have yielded -/
def vsOf (ops : List Oper) (r : Nat → Value) : Nat → Value := fun j => match ops[j]? with | some o => slot r o | none => undef
/-- what those ahead of i have yielded -/
def msk (ops : List Oper) (i : Nat) (vs : Nat → Value) : Nat → Value := fun j => if anc ops ops.length i j = true then vs j else undef
theorem msk_upd {ops : List Oper} {i j d : Nat} {o : Oper} {r : Nat → Value} {v : Value} (hok : flowOk ops = true) (ho : ops[i]? = some o) (hd : o.dst = some d) (h : ∀ k, anc ops ops.length j k = true → k ≠ i) :
    msk ops j (vsOf ops (upd r d v)) = msk ops j (vsOf ops r) := by
  funext k
  unfold msk
  split
  · rename_i hk
    unfold vsOf
    cases hok' : ops[k]? with
    | none => rfl
    | some ok =>
      have hne : ok.dst ≠ some d := (flowOk_spec hok ho).2.2 k ok d hok' (h k hk) hd
      show slot (upd r d v) ok = slot r ok
      unfold slot
      cases hdk : ok.dst with
      | none => rfl
      | some t => exact upd_ne _ _ (fun e => hne (hdk.trans (congrArg some e)))
  · rfl
/-- What an operation of the region is handed when its turn comes. -/
structure Turn2 (E : World) (ops : List Oper) (F : List (List Hp)) (C : Nat → List Hp) (Tp : Nat → Value → List Hp → (Nat → Value) → Prop) (N : Nat) (r : Nat → Value) (i : Nat) (r' : Nat → Value) (w : World) (G : List (List Hp)) (hs : Nat → List Hp) : Prop where
  has : Has E w (C i :: G)
  fr : ∀ s ∈ F, s ⊆ G.flatten
  done : ∀ j o, ops[j]? = some o → anc ops ops.length i j = true → Tp j (slot r' o) (hs j) (msk ops j (vsOf ops r')) ∧ hs j ⊆ G.flatten
  todo : ∀ j, anc ops ops.length j i = true → C j ⊆ G.flatten
  old : ∀ t, (∀ j o, ops[j]? = some o → o.dst = some t → j = i ∨ anc ops ops.length j i = true) → r' t = r t
  each : ∀ j o, ops[j]? = some o → j ≠ i → C j ⊆ G.flatten ∨ (∃ v m, Tp j v (hs j) m) ∧ hs j ⊆ G.flatten

theorem c_flow2 {P : Program} {Q : Exit → Act → World → Prop} {E w : World} {N : Nat} {r : Nat → Value} {id : Nat} {ops : List Oper} (F : List (List Hp)) (C : Nat → List Hp) (Tp : Nat → Value → List Hp → (Nat → Value) → Prop)
    (hm : P.follows .mixedOrders = true) (hok : flowOk ops = true) (H : Has E w (F ++ (List.range ops.length).map C))
    (step : ∀ i o, ops[i]? = some o → ∀ r' w' G hs, Turn2 E ops F C Tp N r i r' w' G hs → OK P o (ev N r') w' fun v w'' => ∃ h', Tp i (match o.dst with | some _ => v | none => undef) h' (msk ops i (vsOf ops r')) ∧ Has E w'' (h' :: G))
    (fin : ∀ (vs : Nat → Value) (hs : Nat → List Hp) w', (∀ i o, ops[i]? = some o → Tp i (vs i) (hs i) (msk ops i vs)) → Has E w' (F ++ (List.range ops.length).map hs) → Q .normal (Go.Q.fr N (puts vs ops 0 r)) w') :
    (Code.region id ops.toArray true).wp P Q (Go.Q.fr N r) w := by
  refine wp_region_any hm ?_
  -- the state while some are done
  let Inv : Array Bool → Act → World → Prop := fun listed a w => listed.size = ops.length ∧ (∀ i, listed.getD i false = true → ∀ d ∈ depsOf ops i, listed.getD d false = true) ∧
    ∃ r' hs, a = Go.Q.fr N r' ∧ Has E w (F ++ (List.range ops.length).map hs) ∧ (∀ i o, ops[i]? = some o → if listed.getD i false = true then o.dst.isSome = true ∧ Tp i (slot r' o) (hs i) (msk ops i (vsOf ops r')) ∨ o.dst = none ∧ Tp i undef (hs i) (msk ops i (vsOf ops r')) else hs i = C i) ∧
    (∀ t, (∀ i o, ops[i]? = some o → o.dst = some t → listed.getD i false = false) → r' t = r t)
  have key : ∀ fuel listed a w, Inv listed a w → (List.range ops.length).countP (fun i => !listed.getD i false) ≤ fuel → wpAny P .any ops.toArray Q fuel listed a w := by
    have ready0 : ∀ listed : Array Bool, listed.size = ops.length → Region.ready .any ops.toArray listed = [] → ∀ i, i < ops.length → listed.getD i false = true := by
      intro listed hsz hr i
      induction i using Nat.strongRecOn with
      | _ i ih =>
        intro hi
        cases hl : listed.getD i false with
        | true => rfl
        | false =>
          exfalso
          obtain ⟨o, ho⟩ : ∃ o, ops[i]? = some o := ⟨_, List.getElem?_eq_getElem hi⟩
          have : i ∈ Region.ready .any ops.toArray listed := by
            refine mem_ready.2 ⟨?_, o, by simpa using ho, fun e he hb => ?_⟩
            · have : i < listed.size := by omega
              simp [this] at hl ⊢; exact hl
            · have hd := mem_depsOf ho he hb
              have hlt := (flowOk_spec hok ho).2.1 _ hd
              exact ih _ hlt (by omega)
          rw [hr] at this; cases this
    have fin' : ∀ listed a w, Inv listed a w → Region.ready .any ops.toArray listed = [] → Q .normal a w := by
      rintro listed a w ⟨hsz, _, r', hs, rfl, hH, hT, hold⟩ hr
      have hall := ready0 listed hsz hr
      let vs : Nat → Value := vsOf ops r'
      have e : Go.Q.fr N r' = Go.Q.fr N (puts vs ops 0 r) := by
        refine fr_congr fun t _ => ?_
        by_cases hex : ∃ (i : Nat) (o : Oper), ops[i]? = some o ∧ o.dst = some t
        · obtain ⟨i, o, ho, hd⟩ := hex
          rw [puts_new vs ops 0 i r o t ho hd (fun j o' hj hne => (flowOk_spec hok ho).2.2 j o' t hj hne hd)]
          simp [vs, vsOf, ho, slot, hd]
        · rw [puts_old vs ops 0 r t (fun o ho hd => by obtain ⟨j, hj⟩ := List.getElem?_of_mem ho; exact hex ⟨j, o, hj, hd⟩)]
          exact hold t (fun i o ho hd => absurd ⟨i, o, ho, hd⟩ hex)
      rw [e]
      refine fin vs hs w (fun i o ho => ?_) hH
      have := hT i o ho
      rw [if_pos (hall i (List.getElem?_eq_some_iff.1 ho).1)] at this
      have hvs : vs i = slot r' o := by simp only [vs, vsOf, ho]
      rw [hvs]
      rcases this with ⟨_, h⟩ | ⟨hn, h⟩
      · exact h
      · unfold slot; rw [hn]; exact h
    intro fuel
    induction fuel with
    | zero =>
      intro listed a w hI hc
      have hr : Region.ready .any ops.toArray listed = [] := by
        rw [List.eq_nil_iff_forall_not_mem]
        intro i hi
        obtain ⟨h0, o, ho, _⟩ := mem_ready.1 hi
        have hlt : i < ops.length := by simpa using (Array.getElem?_eq_some_iff.1 ho).1
        have : listed.getD i false = false := by
          have hs : i < listed.size := by rw [hI.1]; exact hlt
          simp [hs] at h0 ⊢; exact h0
        have hp : 0 < (List.range ops.length).countP (fun i => !listed.getD i false) := List.countP_pos_iff.2 ⟨i, List.mem_range.2 hlt, by rw [this]; rfl⟩
        omega
      exact ⟨hr, fin' listed a w hI hr⟩
    | succ fuel ih =>
      intro listed a w hI hc
      refine ⟨fin' listed a w hI, fun i hi => ?_⟩
      obtain ⟨hsz, hcl, r', hs, rfl, hH, hT, hold⟩ := hI
      obtain ⟨h0, o, ho', hdone⟩ := mem_ready.1 hi
      have ho : ops[i]? = some o := by simpa using ho'
      have hlt : i < ops.length := (List.getElem?_eq_some_iff.1 ho).1
      have hli : listed.getD i false = false := by
        have hs : i < listed.size := by omega
        simp [hs] at h0 ⊢; exact h0
      obtain ⟨hg, hdlt, hdist⟩ := flowOk_spec hok ho
      have hdeps : ∀ d ∈ depsOf ops i, listed.getD d false = true := by
        intro d hd
        unfold depsOf at hd
        rw [ho] at hd
        obtain ⟨e, he, heq⟩ := List.mem_filterMap.1 hd
        split at heq
        · cases heq; exact hdone e (by simpa using he) (by assumption)
        · cases heq
      -- the heaplets: the one at i in front
      let G : List (List Hp) := F ++ ((List.range i).map hs ++ (List.range' (i + 1) (ops.length - (i + 1))).map hs)
      have hsplit : List.range ops.length = List.range i ++ i :: List.range' (i + 1) (ops.length - (i + 1)) := by
        rw [List.range_eq_range', List.range_eq_range', show i :: List.range' (i + 1) (ops.length - (i + 1)) = List.range' i (ops.length - i) from by
          rw [show ops.length - i = (ops.length - (i + 1)) + 1 by omega, List.range'_succ]]
        have := List.range'_append_1 (s := 0) (m := i) (n := ops.length - i)
        rw [Nat.zero_add] at this
        rw [this]; congr 1; omega
      have mapsplit : ∀ f : Nat → List Hp, (List.range ops.length).map f = (List.range i).map f ++ f i :: (List.range' (i + 1) (ops.length - (i + 1))).map f := by
        intro f; rw [hsplit]; simp
      have hperm : ∀ f : Nat → List Hp, (F ++ (List.range ops.length).map f).Perm (f i :: (F ++ ((List.range i).map f ++ (List.range' (i + 1) (ops.length - (i + 1))).map f))) := by
        intro f
        rw [mapsplit f, ← List.append_assoc, ← List.append_assoc]
        exact List.perm_middle
      have hhi : hs i = C i := by have := hT i o ho; rw [if_neg (by rw [hli]; simp)] at this; exact this
      have inG : ∀ j, j < ops.length → j ≠ i → hs j ∈ G := by
        intro j hj hne
        refine List.mem_append_right _ ?_
        rcases Nat.lt_or_gt_of_ne hne with h | h
        · exact List.mem_append_left _ (List.mem_map.2 ⟨j, List.mem_range.2 h, rfl⟩)
        · exact List.mem_append_right _ (List.mem_map.2 ⟨j, by rw [List.mem_range'_1]; omega, rfl⟩)
      have subG : ∀ s ∈ G, s ⊆ G.flatten := fun s hs' x hx => List.mem_flatten.2 ⟨s, hs', hx⟩
      have ancNe : ∀ j, listed.getD j false = true → j ≠ i := fun j hj e => by rw [e, hli] at hj; cases hj
      have turn : Turn2 E ops F C Tp N r i r' w G hs := by
        refine ⟨?_, fun s hs' => subG s (List.mem_append_left _ hs'), fun j oj hoj hanc => ?_, fun j hanc => ?_, fun t ht => ?_, fun j oj hoj hne => ?_⟩
        · rw [← hhi]; exact hH.perm (hperm hs).symm
        · have hl := anc_trans hok hcl _ i j hanc hdeps
          refine ⟨?_, subG _ (inG j (List.getElem?_eq_some_iff.1 hoj).1 (ancNe j hl))⟩
          have := hT j oj hoj
          rw [if_pos hl] at this
          rcases this with ⟨_, h⟩ | ⟨hn, h⟩
          · exact h
          · unfold slot; rw [hn]; exact h
        · cases hj : ops[j]? with
          | none =>
            exfalso
            unfold anc at hanc
            split at hanc
            · cases hanc
            · simp [depsOf, hj] at hanc
          | some oj =>
            have hnl : listed.getD j false = false := by
              cases hl : listed.getD j false with
              | false => rfl
              | true =>
                have := anc_trans hok hcl _ j i hanc (hcl j hl)
                rw [hli] at this; cases this
            have hjl := (List.getElem?_eq_some_iff.1 hj).1
            have hne : j ≠ i := by
              rintro rfl
              have := anc_trans hok hcl _ j j hanc hdeps
              rw [hli] at this; cases this
            have := hT j oj hj
            rw [if_neg (by rw [hnl]; simp)] at this
            rw [← this]; exact subG _ (inG j hjl hne)
        · refine hold t (fun j oj hoj hd => ?_)
          rcases ht j oj hoj hd with rfl | hanc
          · exact hli
          · cases hl : listed.getD j false with
            | false => rfl
            | true =>
              have := anc_trans hok hcl _ j i hanc (hcl j hl)
              rw [hli] at this; cases this
        · have hG := subG _ (inG j (List.getElem?_eq_some_iff.1 hoj).1 hne)
          have := hT j oj hoj
          cases hl : listed.getD j false with
          | true =>
            rw [if_pos hl] at this
            rcases this with ⟨_, h⟩ | ⟨_, h⟩
            · exact .inr ⟨⟨_, _, h⟩, hG⟩
            · exact .inr ⟨⟨_, _, h⟩, hG⟩
          | false =>
            rw [if_neg (by rw [hl]; simp)] at this
            rw [← this]; exact .inl hG
      have hstep := step i o ho r' w G hs turn
      unfold wpOp
      simp only [show ops.toArray[i]? = some o from ho']
      rw [if_pos (by simp [Region.wanted, hg])]
      refine .inl (OK.wp ?_)
      rw [fr_eval]
      refine hstep.mono fun v w'' ⟨h', hTi, hH'⟩ => ?_
      refine ih _ _ _ ⟨by simpa using hsz, ?_, ?_⟩ ?_
      · intro j hj d hd
        by_cases hji : i = j
        · subst hji; exact getD_set_true (hdeps d hd)
        · rw [getD_set_ne false hji] at hj
          exact getD_set_true (hcl j hj d hd)
      · let hs' : Nat → List Hp := fun j => if j = i then h' else hs j
        have hsG : F ++ ((List.range i).map hs' ++ (List.range' (i + 1) (ops.length - (i + 1))).map hs') = G := by
          have e1 : (List.range i).map hs' = (List.range i).map hs := List.map_congr_left fun j hj => by
            have := List.mem_range.1 hj; simp only [hs']; rw [if_neg (by omega)]
          have e2 : (List.range' (i + 1) (ops.length - (i + 1))).map hs' = (List.range' (i + 1) (ops.length - (i + 1))).map hs := List.map_congr_left fun j hj => by
            have := List.mem_range'_1.1 hj; simp only [hs']; rw [if_neg (by omega)]
          rw [e1, e2]
        have hH2 : Has E w'' (F ++ (List.range ops.length).map hs') := by
          refine hH'.perm ((hperm hs').trans ?_)
          rw [hsG]
          simp [hs']
        have hset : ∀ j, j ≠ i → (listed.setIfInBounds i true).getD j false = listed.getD j false := fun j hj => getD_set_ne false (Ne.symm hj)
        have hseti : (listed.setIfInBounds i true).getD i false = true := by
          have : i < listed.size := by omega
          simp [this]
        cases hd : o.dst with
        | none =>
          refine ⟨r', hs', by rw [fr_put_none], hH2, fun j oj hoj => ?_, fun t ht => hold t fun j oj hoj hdj => ?_⟩
          · by_cases hji : j = i
            · subst hji
              rw [ho] at hoj; cases hoj
              rw [if_pos hseti]
              rw [hd] at hTi
              exact .inr ⟨hd, by simpa [hs'] using hTi⟩
            · rw [hset j hji]
              have := hT j oj hoj
              simpa [hs', hji] using this
          · by_cases hji : j = i
            · subst hji; exact hli
            · have := ht j oj hoj hdj; rwa [hset j hji] at this
        | some d =>
          refine ⟨upd r' d v, hs', by rw [fr_put], hH2, fun j oj hoj => ?_, fun t ht => ?_⟩
          · by_cases hji : j = i
            · subst hji
              rw [ho] at hoj; cases hoj
              rw [if_pos hseti]
              refine .inl ⟨by rw [hd]; rfl, ?_⟩
              rw [hd] at hTi
              rw [msk_upd hok ho hd (fun k hk => ancNe k (anc_trans hok hcl _ j k hk hdeps))]
              simp only [slot, hd, upd_same, hs', if_true]; exact hTi
            · rw [hset j hji]
              have := hT j oj hoj
              have hne : oj.dst ≠ some d := hdist j oj d hoj hji hd
              have hsl : slot (upd r' d v) oj = slot r' oj := by
                unfold slot
                cases hdj : oj.dst with
                | none => rfl
                | some t => exact upd_ne _ _ (fun e => hne (by rw [hdj, e]))
              cases hlj : listed.getD j false with
              | true =>
                rw [msk_upd hok ho hd (fun k hk => ancNe k (anc_trans hok hcl _ j k hk (hcl j hlj)))]
                simpa [hs', hji, hsl, hlj] using this
              | false => simpa [hs', hji, hlj] using this
          · have hne : t ≠ d := by
              rintro rfl
              have := ht i o ho hd
              rw [hseti] at this; cases this
            rw [upd_ne _ _ hne]
            refine hold t fun j oj hoj hdj => ?_
            by_cases hji : j = i
            · subst hji; exact hli
            · have := ht j oj hoj hdj; rwa [hset j hji] at this
      · have : (List.range ops.length).countP (fun j => !(listed.setIfInBounds i true).getD j false) < (List.range ops.length).countP (fun j => !listed.getD j false) := by
          have hset : ∀ j, j ≠ i → (listed.setIfInBounds i true).getD j false = listed.getD j false := fun j hj => getD_set_ne false (Ne.symm hj)
          have hseti : (listed.setIfInBounds i true).getD i false = true := by
            have : i < listed.size := by omega
            simp [this]
          rw [hsplit, List.countP_append, List.countP_cons, List.countP_append, List.countP_cons, hseti, hli]
          have e1 : (List.range i).countP (fun j => !(listed.setIfInBounds i true).getD j false) = (List.range i).countP (fun j => !listed.getD j false) :=
            List.countP_congr fun j hj => by have := List.mem_range.1 hj; rw [hset j (by omega)]
          have e2 : (List.range' (i + 1) (ops.length - (i + 1))).countP (fun j => !(listed.setIfInBounds i true).getD j false) = (List.range' (i + 1) (ops.length - (i + 1))).countP (fun j => !listed.getD j false) :=
            List.countP_congr fun j hj => by have := List.mem_range'_1.1 hj; rw [hset j (by omega)]
          rw [e1, e2]; simp
        omega
  have h0 : Inv (Array.replicate ops.toArray.size false) (Go.Q.fr N r) { w with drawn := w.drawn + 1 } := by
    have hf : ∀ i, (Array.replicate ops.toArray.size false).getD i false = false := by
      intro i; by_cases h : i < ops.length <;> simp [h]
    refine ⟨by simp, fun i hi => ?_, r, C, rfl, H.drew _, fun i o _ => ?_, fun _ _ => rfl⟩
    · rw [hf] at hi; cases hi
    · rw [if_neg (by rw [hf]; simp)]
  refine key _ _ _ _ h0 ?_
  refine Nat.le_trans List.countP_le_length (by simp)

theorem Turn2.was {E : World} {ops : List Oper} {F : List (List Hp)} {C : Nat → List Hp} {Tp : Nat → Value → List Hp → (Nat → Value) → Prop} {N : Nat} {r : Nat → Value} {i : Nat} {r' : Nat → Value} {w : World} {G : List (List Hp)} {hs : Nat → List Hp}
    (H : Turn2 E ops F C Tp N r i r' w G hs) (t : Nat) (h : oldB ops i t = true) : r' t = r t := by
  refine H.old t fun j o ho hd => ?_
  unfold oldB at h
  rw [List.all_eq_true] at h
  have := h j (List.mem_range.2 (List.getElem?_eq_some_iff.1 ho).1)
  simp only [ho, Bool.or_eq_true, bne_iff_ne, beq_iff_eq] at this
  rcases this with (h | h) | h
  · exact absurd hd h
  · exact .inl h
  · exact .inr h
end Go.Q
namespace Go.Q
/-- Is a region of that make: each slot written once, all edges lead back? -/
def flowOk3 (ops : List Oper) : Bool :=
  ((List.range ops.length).all fun i => match ops[i]? with
    | some o => (depsOf ops i).all (fun d => decide (d < i)) && (List.range ops.length).all fun j => j == i || match ops[j]? with
      | some o' => o.dst.isNone || o'.dst != o.dst
      | none => true
    | none => true)
theorem flowOk3_spec {ops : List Oper} (h : flowOk3 ops = true) {i : Nat} {o : Oper} (ho : ops[i]? = some o) :
    (∀ d ∈ depsOf ops i, d < i) ∧ ∀ j o' t, ops[j]? = some o' → j ≠ i → o.dst = some t → o'.dst ≠ some t := by
  unfold flowOk3 at h
  rw [List.all_eq_true] at h
  have hi : i < ops.length := (List.getElem?_eq_some_iff.1 ho).1
  have h1 := h i (List.mem_range.2 hi)
  simp only [ho, Bool.and_eq_true, List.all_eq_true, decide_eq_true_eq] at h1
  obtain ⟨hd, hj⟩ := h1
  refine ⟨hd, fun j o' t hj' hne ht => ?_⟩
  have := hj j (List.mem_range.2 (List.getElem?_eq_some_iff.1 hj').1)
  simp only [hj', ht, Option.isNone_some, Bool.false_or, Bool.or_eq_true, beq_iff_eq, bne_iff_ne] at this
  rcases this with h | h
  · exact absurd h hne
  · exact h

theorem anc_trans3 {ops : List Oper} (_h : flowOk3 ops = true) {listed : Array Bool} (hc : ∀ i, listed.getD i false = true → ∀ d ∈ depsOf ops i, listed.getD d false = true) :
    ∀ f i j, anc ops f i j = true → (∀ d ∈ depsOf ops i, listed.getD d false = true) → listed.getD j false = true := by
  intro f
  induction f with
  | zero => intro i j h; simp [anc] at h
  | succ f ih =>
    intro i j h hd
    rw [anc, List.any_eq_true] at h
    obtain ⟨d, hdm, hh⟩ := h
    rw [Bool.or_eq_true] at hh
    rcases hh with e | e
    · rw [← beq_iff_eq.1 e]; exact hd d hdm
    · exact ih d j e (hc d (hd d hdm))

/-- An operation of a region, under its guard. -/
def GOK (P : Program) (ops : List Oper) (o : Oper) (N : Nat) (r : Nat → Value) (w : World) (K : Value → World → Prop) : Prop := match o.guard with
  | none => OK P o (ev N r) w K
  | some (g, b) => ∃ t, dstOf ops g = some t ∧ (ev N r (.tmp t) = .bool b ∧ OK P o (ev N r) w K ∨ ((∃ b', ev N r (.tmp t) = .bool b' ∧ (b' == b) = false) ∨ ev N r (.tmp t) = undef) ∧ K undef w)
theorem GOK.on {P : Program} {ops : List Oper} {o : Oper} {N : Nat} {r : Nat → Value} {w : World} {K : Value → World → Prop} {g t : Nat} {b : Bool} (hg : o.guard = some (g, b)) (ht : dstOf ops g = some t) (hv : ev N r (.tmp t) = .bool b) (h : OK P o (ev N r) w K) : GOK P ops o N r w K := by
  unfold GOK; rw [hg]; exact ⟨t, ht, .inl ⟨hv, h⟩⟩
theorem GOK.off {P : Program} {ops : List Oper} {o : Oper} {N : Nat} {r : Nat → Value} {w : World} {K : Value → World → Prop} {g t : Nat} {b b' : Bool} (hg : o.guard = some (g, b)) (ht : dstOf ops g = some t) (hv : ev N r (.tmp t) = .bool b') (hne : (b' == b) = false) (h : K undef w) : GOK P ops o N r w K := by
  unfold GOK; rw [hg]; exact ⟨t, ht, .inr ⟨.inl ⟨b', hv, hne⟩, h⟩⟩
theorem GOK.offu {P : Program} {ops : List Oper} {o : Oper} {N : Nat} {r : Nat → Value} {w : World} {K : Value → World → Prop} {g t : Nat} {b : Bool} (hg : o.guard = some (g, b)) (ht : dstOf ops g = some t) (hv : ev N r (.tmp t) = undef) (h : K undef w) : GOK P ops o N r w K := by
  unfold GOK; rw [hg]; exact ⟨t, ht, .inr ⟨.inr hv, h⟩⟩
theorem GOK.free {P : Program} {ops : List Oper} {o : Oper} {N : Nat} {r : Nat → Value} {w : World} {K : Value → World → Prop} (hg : o.guard = none) (h : OK P o (ev N r) w K) : GOK P ops o N r w K := by
  unfold GOK; rw [hg]; exact h
theorem GOK.wp {P : Program} {ops : List Oper} {Q : Exit → Act → World → Prop} {o : Oper} {N i : Nat} {r : Nat → Value} {w : World} {K : Value → World → Prop} {K' : Act → World → Prop} (ho : ops.toArray[i]? = some o) (h : GOK P ops o N r w K)
    (hK : ∀ v w'', K v w'' → K' ((Go.Q.fr N r).put o.dst v) w'') : wpOp P ops.toArray Q i K' (Go.Q.fr N r) w := by
  unfold wpOp
  simp only [ho]
  obtain ⟨d, op, T, pos, after, gd⟩ := o
  unfold GOK at h
  cases gd with
  | none =>
    rw [if_pos (by simp [Region.wanted])]
    refine .inl (OK.wp ?_)
    rw [fr_eval]
    exact OK.mono h fun v w'' hk => hK v w'' hk
  | some gb =>
    obtain ⟨g, b⟩ := gb
    obtain ⟨t, ht, h⟩ := h
    obtain ⟨og, hg, ht⟩ := dstOf_spec ops g ht
    rcases h with ⟨hv, h⟩ | ⟨⟨b', hv, hne⟩ | hv, h⟩
    · rw [if_pos (by rw [wanted_fr hg ht hv]; simp)]
      refine .inl (OK.wp ?_)
      rw [fr_eval]
      exact OK.mono h fun v w'' hk => hK v w'' hk
    · rw [if_neg (by rw [wanted_fr hg ht hv, hne]; simp)]
      exact hK _ _ h
    · have hy : yielded ops.toArray (Go.Q.fr N r).tmps g = none := by
        simp only [yielded, hg, ht, Option.bind_some, fr_at]
        by_cases h : t < N
        · have hb : Nat.blt t N = true := by simpa using h
          simp only [ev, hb] at hv
          have hv' : r t = undef := hv
          rw [if_pos h, hv']; rfl
        · rw [if_neg h]
      rw [if_neg (by simp [Region.wanted, hy])]
      exact hK _ _ h
theorem msk_upd3 {ops : List Oper} {i j d : Nat} {o : Oper} {r : Nat → Value} {v : Value} (hok : flowOk3 ops = true) (ho : ops[i]? = some o) (hd : o.dst = some d) (h : ∀ k, anc ops ops.length j k = true → k ≠ i) :
    msk ops j (vsOf ops (upd r d v)) = msk ops j (vsOf ops r) := by
  funext k
  unfold msk
  split
  · rename_i hk
    unfold vsOf
    cases hok' : ops[k]? with
    | none => rfl
    | some ok =>
      have hne : ok.dst ≠ some d := (flowOk3_spec hok ho).2 k ok d hok' (h k hk) hd
      show slot (upd r d v) ok = slot r ok
      unfold slot
      cases hdk : ok.dst with
      | none => rfl
      | some t => exact upd_ne _ _ (fun e => hne (hdk.trans (congrArg some e)))
  · rfl
/-- What an operation of the region is handed when its turn comes. -/
structure Turn3 (E : World) (ops : List Oper) (F : List (List Hp)) (C : Nat → List Hp) (Tp : Nat → Value → List Hp → (Nat → Value) → Prop) (N : Nat) (r : Nat → Value) (i : Nat) (r' : Nat → Value) (w : World) (G : List (List Hp)) (hs : Nat → List Hp) : Prop where
  has : Has E w (C i :: G)
  fr : ∀ s ∈ F, s ⊆ G.flatten
  done : ∀ j o, ops[j]? = some o → anc ops ops.length i j = true → Tp j (slot r' o) (hs j) (msk ops j (vsOf ops r')) ∧ hs j ⊆ G.flatten
  todo : ∀ j, anc ops ops.length j i = true → C j ⊆ G.flatten
  old : ∀ t, (∀ j o, ops[j]? = some o → o.dst = some t → j = i ∨ anc ops ops.length j i = true) → r' t = r t
  each : ∀ j o, ops[j]? = some o → j ≠ i → C j ⊆ G.flatten ∨ (∃ v m, Tp j v (hs j) m) ∧ hs j ⊆ G.flatten

theorem c_flow3 {P : Program} {Q : Exit → Act → World → Prop} {E w : World} {N : Nat} {r : Nat → Value} {id : Nat} {ops : List Oper} (F : List (List Hp)) (C : Nat → List Hp) (Tp : Nat → Value → List Hp → (Nat → Value) → Prop)
    (hm : P.follows .mixedOrders = true) (hok : flowOk3 ops = true) (H : Has E w (F ++ (List.range ops.length).map C))
    (step : ∀ i o, ops[i]? = some o → ∀ r' w' G hs, Turn3 E ops F C Tp N r i r' w' G hs → GOK P ops o N r' w' fun v w'' => ∃ h', Tp i (match o.dst with | some _ => v | none => undef) h' (msk ops i (vsOf ops r')) ∧ Has E w'' (h' :: G))
    (fin : ∀ (vs : Nat → Value) (hs : Nat → List Hp) w', (∀ i o, ops[i]? = some o → Tp i (vs i) (hs i) (msk ops i vs)) → Has E w' (F ++ (List.range ops.length).map hs) → Q .normal (Go.Q.fr N (puts vs ops 0 r)) w') :
    (Code.region id ops.toArray true).wp P Q (Go.Q.fr N r) w := by
  refine wp_region_any hm ?_
  -- the state while some are done
  let Inv : Array Bool → Act → World → Prop := fun listed a w => listed.size = ops.length ∧ (∀ i, listed.getD i false = true → ∀ d ∈ depsOf ops i, listed.getD d false = true) ∧
    ∃ r' hs, a = Go.Q.fr N r' ∧ Has E w (F ++ (List.range ops.length).map hs) ∧ (∀ i o, ops[i]? = some o → if listed.getD i false = true then o.dst.isSome = true ∧ Tp i (slot r' o) (hs i) (msk ops i (vsOf ops r')) ∨ o.dst = none ∧ Tp i undef (hs i) (msk ops i (vsOf ops r')) else hs i = C i) ∧
    (∀ t, (∀ i o, ops[i]? = some o → o.dst = some t → listed.getD i false = false) → r' t = r t)
  have key : ∀ fuel listed a w, Inv listed a w → (List.range ops.length).countP (fun i => !listed.getD i false) ≤ fuel → wpAny P .any ops.toArray Q fuel listed a w := by
    have ready0 : ∀ listed : Array Bool, listed.size = ops.length → Region.ready .any ops.toArray listed = [] → ∀ i, i < ops.length → listed.getD i false = true := by
      intro listed hsz hr i
      induction i using Nat.strongRecOn with
      | _ i ih =>
        intro hi
        cases hl : listed.getD i false with
        | true => rfl
        | false =>
          exfalso
          obtain ⟨o, ho⟩ : ∃ o, ops[i]? = some o := ⟨_, List.getElem?_eq_getElem hi⟩
          have : i ∈ Region.ready .any ops.toArray listed := by
            refine mem_ready.2 ⟨?_, o, by simpa using ho, fun e he hb => ?_⟩
            · have : i < listed.size := by omega
              simp [this] at hl ⊢; exact hl
            · have hd := mem_depsOf ho he hb
              have hlt := (flowOk3_spec hok ho).1 _ hd
              exact ih _ hlt (by omega)
          rw [hr] at this; cases this
    have fin' : ∀ listed a w, Inv listed a w → Region.ready .any ops.toArray listed = [] → Q .normal a w := by
      rintro listed a w ⟨hsz, _, r', hs, rfl, hH, hT, hold⟩ hr
      have hall := ready0 listed hsz hr
      let vs : Nat → Value := vsOf ops r'
      have e : Go.Q.fr N r' = Go.Q.fr N (puts vs ops 0 r) := by
        refine fr_congr fun t _ => ?_
        by_cases hex : ∃ (i : Nat) (o : Oper), ops[i]? = some o ∧ o.dst = some t
        · obtain ⟨i, o, ho, hd⟩ := hex
          rw [puts_new vs ops 0 i r o t ho hd (fun j o' hj hne => (flowOk3_spec hok ho).2 j o' t hj hne hd)]
          simp [vs, vsOf, ho, slot, hd]
        · rw [puts_old vs ops 0 r t (fun o ho hd => by obtain ⟨j, hj⟩ := List.getElem?_of_mem ho; exact hex ⟨j, o, hj, hd⟩)]
          exact hold t (fun i o ho hd => absurd ⟨i, o, ho, hd⟩ hex)
      rw [e]
      refine fin vs hs w (fun i o ho => ?_) hH
      have := hT i o ho
      rw [if_pos (hall i (List.getElem?_eq_some_iff.1 ho).1)] at this
      have hvs : vs i = slot r' o := by simp only [vs, vsOf, ho]
      rw [hvs]
      rcases this with ⟨_, h⟩ | ⟨hn, h⟩
      · exact h
      · unfold slot; rw [hn]; exact h
    intro fuel
    induction fuel with
    | zero =>
      intro listed a w hI hc
      have hr : Region.ready .any ops.toArray listed = [] := by
        rw [List.eq_nil_iff_forall_not_mem]
        intro i hi
        obtain ⟨h0, o, ho, _⟩ := mem_ready.1 hi
        have hlt : i < ops.length := by simpa using (Array.getElem?_eq_some_iff.1 ho).1
        have : listed.getD i false = false := by
          have hs : i < listed.size := by rw [hI.1]; exact hlt
          simp [hs] at h0 ⊢; exact h0
        have hp : 0 < (List.range ops.length).countP (fun i => !listed.getD i false) := List.countP_pos_iff.2 ⟨i, List.mem_range.2 hlt, by rw [this]; rfl⟩
        omega
      exact ⟨hr, fin' listed a w hI hr⟩
    | succ fuel ih =>
      intro listed a w hI hc
      refine ⟨fin' listed a w hI, fun i hi => ?_⟩
      obtain ⟨hsz, hcl, r', hs, rfl, hH, hT, hold⟩ := hI
      obtain ⟨h0, o, ho', hdone⟩ := mem_ready.1 hi
      have ho : ops[i]? = some o := by simpa using ho'
      have hlt : i < ops.length := (List.getElem?_eq_some_iff.1 ho).1
      have hli : listed.getD i false = false := by
        have hs : i < listed.size := by omega
        simp [hs] at h0 ⊢; exact h0
      obtain ⟨hdlt, hdist⟩ := flowOk3_spec hok ho
      have hdeps : ∀ d ∈ depsOf ops i, listed.getD d false = true := by
        intro d hd
        unfold depsOf at hd
        rw [ho] at hd
        obtain ⟨e, he, heq⟩ := List.mem_filterMap.1 hd
        split at heq
        · cases heq; exact hdone e (by simpa using he) (by assumption)
        · cases heq
      -- the heaplets: the one at i in front
      let G : List (List Hp) := F ++ ((List.range i).map hs ++ (List.range' (i + 1) (ops.length - (i + 1))).map hs)
      have hsplit : List.range ops.length = List.range i ++ i :: List.range' (i + 1) (ops.length - (i + 1)) := by
        rw [List.range_eq_range', List.range_eq_range', show i :: List.range' (i + 1) (ops.length - (i + 1)) = List.range' i (ops.length - i) from by
          rw [show ops.length - i = (ops.length - (i + 1)) + 1 by omega, List.range'_succ]]
        have := List.range'_append_1 (s := 0) (m := i) (n := ops.length - i)
        rw [Nat.zero_add] at this
        rw [this]; congr 1; omega
      have mapsplit : ∀ f : Nat → List Hp, (List.range ops.length).map f = (List.range i).map f ++ f i :: (List.range' (i + 1) (ops.length - (i + 1))).map f := by
        intro f; rw [hsplit]; simp
      have hperm : ∀ f : Nat → List Hp, (F ++ (List.range ops.length).map f).Perm (f i :: (F ++ ((List.range i).map f ++ (List.range' (i + 1) (ops.length - (i + 1))).map f))) := by
        intro f
        rw [mapsplit f, ← List.append_assoc, ← List.append_assoc]
        exact List.perm_middle
      have hhi : hs i = C i := by have := hT i o ho; rw [if_neg (by rw [hli]; simp)] at this; exact this
      have inG : ∀ j, j < ops.length → j ≠ i → hs j ∈ G := by
        intro j hj hne
        refine List.mem_append_right _ ?_
        rcases Nat.lt_or_gt_of_ne hne with h | h
        · exact List.mem_append_left _ (List.mem_map.2 ⟨j, List.mem_range.2 h, rfl⟩)
        · exact List.mem_append_right _ (List.mem_map.2 ⟨j, by rw [List.mem_range'_1]; omega, rfl⟩)
      have subG : ∀ s ∈ G, s ⊆ G.flatten := fun s hs' x hx => List.mem_flatten.2 ⟨s, hs', hx⟩
      have ancNe : ∀ j, listed.getD j false = true → j ≠ i := fun j hj e => by rw [e, hli] at hj; cases hj
      have turn : Turn3 E ops F C Tp N r i r' w G hs := by
        refine ⟨?_, fun s hs' => subG s (List.mem_append_left _ hs'), fun j oj hoj hanc => ?_, fun j hanc => ?_, fun t ht => ?_, fun j oj hoj hne => ?_⟩
        · rw [← hhi]; exact hH.perm (hperm hs).symm
        · have hl := anc_trans3 hok hcl _ i j hanc hdeps
          refine ⟨?_, subG _ (inG j (List.getElem?_eq_some_iff.1 hoj).1 (ancNe j hl))⟩
          have := hT j oj hoj
          rw [if_pos hl] at this
          rcases this with ⟨_, h⟩ | ⟨hn, h⟩
          · exact h
          · unfold slot; rw [hn]; exact h
        · cases hj : ops[j]? with
          | none =>
            exfalso
            unfold anc at hanc
            split at hanc
            · cases hanc
            · simp [depsOf, hj] at hanc
          | some oj =>
            have hnl : listed.getD j false = false := by
              cases hl : listed.getD j false with
              | false => rfl
              | true =>
                have := anc_trans3 hok hcl _ j i hanc (hcl j hl)
                rw [hli] at this; cases this
            have hjl := (List.getElem?_eq_some_iff.1 hj).1
            have hne : j ≠ i := by
              rintro rfl
              have := anc_trans3 hok hcl _ j j hanc hdeps
              rw [hli] at this; cases this
            have := hT j oj hj
            rw [if_neg (by rw [hnl]; simp)] at this
            rw [← this]; exact subG _ (inG j hjl hne)
        · refine hold t (fun j oj hoj hd => ?_)
          rcases ht j oj hoj hd with rfl | hanc
          · exact hli
          · cases hl : listed.getD j false with
            | false => rfl
            | true =>
              have := anc_trans3 hok hcl _ j i hanc (hcl j hl)
              rw [hli] at this; cases this
        · have hG := subG _ (inG j (List.getElem?_eq_some_iff.1 hoj).1 hne)
          have := hT j oj hoj
          cases hl : listed.getD j false with
          | true =>
            rw [if_pos hl] at this
            rcases this with ⟨_, h⟩ | ⟨_, h⟩
            · exact .inr ⟨⟨_, _, h⟩, hG⟩
            · exact .inr ⟨⟨_, _, h⟩, hG⟩
          | false =>
            rw [if_neg (by rw [hl]; simp)] at this
            rw [← this]; exact .inl hG
      have hstep := step i o ho r' w G hs turn
      have hnext : ∀ (v : Value) (w'' : World), (∃ h', Tp i (match o.dst with | some _ => v | none => undef) h' (msk ops i (vsOf ops r')) ∧ Has E w'' (h' :: G)) →
          wpAny P .any ops.toArray Q fuel (listed.setIfInBounds i true) ((Go.Q.fr N r').put o.dst v) w'' := ?_
      · exact GOK.wp ho' hstep hnext
      rintro v w'' ⟨h', hTi, hH'⟩
      refine ih _ _ _ ⟨by simpa using hsz, ?_, ?_⟩ ?_
      · intro j hj d hd
        by_cases hji : i = j
        · subst hji; exact getD_set_true (hdeps d hd)
        · rw [getD_set_ne false hji] at hj
          exact getD_set_true (hcl j hj d hd)
      · let hs' : Nat → List Hp := fun j => if j = i then h' else hs j
        have hsG : F ++ ((List.range i).map hs' ++ (List.range' (i + 1) (ops.length - (i + 1))).map hs') = G := by
          have e1 : (List.range i).map hs' = (List.range i).map hs := List.map_congr_left fun j hj => by
            have := List.mem_range.1 hj; simp only [hs']; rw [if_neg (by omega)]
          have e2 : (List.range' (i + 1) (ops.length - (i + 1))).map hs' = (List.range' (i + 1) (ops.length - (i + 1))).map hs := List.map_congr_left fun j hj => by
            have := List.mem_range'_1.1 hj; simp only [hs']; rw [if_neg (by omega)]
          rw [e1, e2]
        have hH2 : Has E w'' (F ++ (List.range ops.length).map hs') := by
          refine hH'.perm ((hperm hs').trans ?_)
          rw [hsG]
          simp [hs']
        have hset : ∀ j, j ≠ i → (listed.setIfInBounds i true).getD j false = listed.getD j false := fun j hj => getD_set_ne false (Ne.symm hj)
        have hseti : (listed.setIfInBounds i true).getD i false = true := by
          have : i < listed.size := by omega
          simp [this]
        cases hd : o.dst with
        | none =>
          refine ⟨r', hs', by rw [fr_put_none], hH2, fun j oj hoj => ?_, fun t ht => hold t fun j oj hoj hdj => ?_⟩
          · by_cases hji : j = i
            · subst hji
              rw [ho] at hoj; cases hoj
              rw [if_pos hseti]
              rw [hd] at hTi
              exact .inr ⟨hd, by simpa [hs'] using hTi⟩
            · rw [hset j hji]
              have := hT j oj hoj
              simpa [hs', hji] using this
          · by_cases hji : j = i
            · subst hji; exact hli
            · have := ht j oj hoj hdj; rwa [hset j hji] at this
        | some d =>
          refine ⟨upd r' d v, hs', by rw [fr_put], hH2, fun j oj hoj => ?_, fun t ht => ?_⟩
          · by_cases hji : j = i
            · subst hji
              rw [ho] at hoj; cases hoj
              rw [if_pos hseti]
              refine .inl ⟨by rw [hd]; rfl, ?_⟩
              rw [hd] at hTi
              rw [msk_upd3 hok ho hd (fun k hk => ancNe k (anc_trans3 hok hcl _ j k hk hdeps))]
              simp only [slot, hd, upd_same, hs', if_true]; exact hTi
            · rw [hset j hji]
              have := hT j oj hoj
              have hne : oj.dst ≠ some d := hdist j oj d hoj hji hd
              have hsl : slot (upd r' d v) oj = slot r' oj := by
                unfold slot
                cases hdj : oj.dst with
                | none => rfl
                | some t => exact upd_ne _ _ (fun e => hne (by rw [hdj, e]))
              cases hlj : listed.getD j false with
              | true =>
                rw [msk_upd3 hok ho hd (fun k hk => ancNe k (anc_trans3 hok hcl _ j k hk (hcl j hlj)))]
                simpa [hs', hji, hsl, hlj] using this
              | false => simpa [hs', hji, hlj] using this
          · have hne : t ≠ d := by
              rintro rfl
              have := ht i o ho hd
              rw [hseti] at this; cases this
            rw [upd_ne _ _ hne]
            refine hold t fun j oj hoj hdj => ?_
            by_cases hji : j = i
            · subst hji; exact hli
            · have := ht j oj hoj hdj; rwa [hset j hji] at this
      · have : (List.range ops.length).countP (fun j => !(listed.setIfInBounds i true).getD j false) < (List.range ops.length).countP (fun j => !listed.getD j false) := by
          have hset : ∀ j, j ≠ i → (listed.setIfInBounds i true).getD j false = listed.getD j false := fun j hj => getD_set_ne false (Ne.symm hj)
          have hseti : (listed.setIfInBounds i true).getD i false = true := by
            have : i < listed.size := by omega
            simp [this]
          rw [hsplit, List.countP_append, List.countP_cons, List.countP_append, List.countP_cons, hseti, hli]
          have e1 : (List.range i).countP (fun j => !(listed.setIfInBounds i true).getD j false) = (List.range i).countP (fun j => !listed.getD j false) :=
            List.countP_congr fun j hj => by have := List.mem_range.1 hj; rw [hset j (by omega)]
          have e2 : (List.range' (i + 1) (ops.length - (i + 1))).countP (fun j => !(listed.setIfInBounds i true).getD j false) = (List.range' (i + 1) (ops.length - (i + 1))).countP (fun j => !listed.getD j false) :=
            List.countP_congr fun j hj => by have := List.mem_range'_1.1 hj; rw [hset j (by omega)]
          rw [e1, e2]; simp
        omega
  have h0 : Inv (Array.replicate ops.toArray.size false) (Go.Q.fr N r) { w with drawn := w.drawn + 1 } := by
    have hf : ∀ i, (Array.replicate ops.toArray.size false).getD i false = false := by
      intro i; by_cases h : i < ops.length <;> simp [h]
    refine ⟨by simp, fun i hi => ?_, r, C, rfl, H.drew _, fun i o _ => ?_, fun _ _ => rfl⟩
    · rw [hf] at hi; cases hi
    · rw [if_neg (by rw [hf]; simp)]
  refine key _ _ _ _ h0 ?_
  refine Nat.le_trans List.countP_le_length (by simp)

theorem Turn3.was {E : World} {ops : List Oper} {F : List (List Hp)} {C : Nat → List Hp} {Tp : Nat → Value → List Hp → (Nat → Value) → Prop} {N : Nat} {r : Nat → Value} {i : Nat} {r' : Nat → Value} {w : World} {G : List (List Hp)} {hs : Nat → List Hp}
    (H : Turn3 E ops F C Tp N r i r' w G hs) (t : Nat) (h : oldB ops i t = true) : r' t = r t := by
  refine H.old t fun j o ho hd => ?_
  unfold oldB at h
  rw [List.all_eq_true] at h
  have := h j (List.mem_range.2 (List.getElem?_eq_some_iff.1 ho).1)
  simp only [ho, Bool.or_eq_true, bne_iff_ne, beq_iff_eq] at this
  rcases this with (h | h) | h
  · exact absurd hd h
  · exact .inl h
  · exact .inr h
end Go.Q
namespace Go.Q
/-- From m on each operation comes behind all that are ahead of it. -/
def seqB (ops : List Oper) (m : Nat) : Bool := (List.range' m (ops.length - m)).all fun i => (List.range i).all fun j => anc ops ops.length i j
theorem seqB_spec {ops : List Oper} {m : Nat} (h : seqB ops m = true) : ∀ i j, m ≤ i → i < ops.length → j < i → anc ops ops.length i j = true := fun i j h1 h2 h3 => by
  unfold seqB at h
  rw [List.all_eq_true] at h
  have := h i (List.mem_range'_1.2 (by omega))
  rw [List.all_eq_true] at this
  exact this j (List.mem_range.2 h3)
theorem seq_any {P : Program} {Q : Exit → Act → World → Prop} {ops : List Oper} (hok : flowOk3 ops = true) : ∀ (n k : Nat) (listed : Array Bool) (a : Act) (w : World), k + n = ops.length → listed.size = ops.length → (∀ i, i < k → listed.getD i false = true) → (∀ i, k ≤ i → listed.getD i false = false) →
    (∀ i j, k ≤ i → i < ops.length → j < i → anc ops ops.length i j = true) → wpOps P ops.toArray Q (List.range' k n) a w → ∀ fuel, n ≤ fuel → wpAny P .any ops.toArray Q fuel listed a w
  | 0, k, listed, a, w, hk, hsz, hall, hnot, hsq, h, fuel, hf => by
    have hr : Region.ready .any ops.toArray listed = [] := by
      rw [List.eq_nil_iff_forall_not_mem]
      intro i hi
      obtain ⟨h0, o, ho, _⟩ := mem_ready.1 hi
      have hlt : i < ops.length := by simpa using (Array.getElem?_eq_some_iff.1 ho).1
      have h1 := hall i (by omega)
      have hs : i < listed.size := by omega
      simp [hs] at h0 h1; rw [h0] at h1; cases h1
    cases fuel with
    | zero => exact ⟨hr, h⟩
    | succ f => exact ⟨fun _ => h, fun i hi => by rw [hr] at hi; cases hi⟩
  | n + 1, k, listed, a, w, hk, hsz, hall, hnot, hsq, h, fuel, hf => by
    obtain ⟨f, rfl⟩ : ∃ f, fuel = f + 1 := ⟨fuel - 1, by omega⟩
    have hlk : k < ops.length := by omega
    have hcl : ∀ i, listed.getD i false = true → ∀ d ∈ depsOf ops i, listed.getD d false = true := fun i hi d hd => by
      have hik : i < k := by
        rcases Nat.lt_or_ge i k with g | g
        · exact g
        · rw [hnot i g] at hi; cases hi
      have := (flowOk3_spec hok (List.getElem?_eq_getElem (show i < ops.length by omega))).1 d hd
      exact hall d (by omega)
    have hkr : k ∈ Region.ready .any ops.toArray listed := by
      refine mem_ready.2 ⟨?_, ops[k], by simp [hlk], fun e he hb => ?_⟩
      · have h1 := hnot k (Nat.le_refl _)
        have hs : k < listed.size := by omega
        simp [hs] at h1 ⊢; exact h1
      · have hd := mem_depsOf (List.getElem?_eq_getElem hlk) he hb
        exact hall _ ((flowOk3_spec hok (List.getElem?_eq_getElem hlk)).1 _ hd)
    refine ⟨fun hr => (by rw [hr] at hkr; cases hkr), fun i hi => ?_⟩
    obtain ⟨h0, o, ho, hdone⟩ := mem_ready.1 hi
    have hlt : i < ops.length := by simpa using (Array.getElem?_eq_some_iff.1 ho).1
    have hli : listed.getD i false = false := by
      have hs : i < listed.size := by omega
      simp [hs] at h0 ⊢; exact h0
    have hdeps : ∀ d ∈ depsOf ops i, listed.getD d false = true := by
      intro d hd
      unfold depsOf at hd
      rw [show ops[i]? = some o by simpa using ho] at hd
      obtain ⟨e, he, heq⟩ := List.mem_filterMap.1 hd
      split at heq
      · cases heq; exact hdone e (by simpa using he) (by assumption)
      · cases heq
    have hik : i = k := by
      rcases Nat.lt_trichotomy i k with g | g | g
      · rw [hall i g] at hli; cases hli
      · exact g
      · have := anc_trans3 hok hcl _ i k (hsq i k (by omega) hlt g) hdeps
        rw [hnot k (Nat.le_refl _)] at this; cases this
    subst hik
    rw [List.range'_succ, wpOps_cons] at h
    refine wpOp_mono (fun a' w' h' => ?_) h
    refine seq_any hok n (i + 1) _ a' w' (by omega) (by simpa using hsz) (fun j hj => ?_) (fun j hj => ?_) (fun j l h1 h2 h3 => hsq j l (by omega) h2 h3) h' f (by omega)
    · by_cases e : i = j
      · subst e
        have : i < listed.size := by omega
        simp [this]
      · rw [getD_set_ne false e]; exact hall j (by omega)
    · rw [getD_set_ne false (show i ≠ j by omega)]; exact hnot j (by omega)
theorem c_flow4 {P : Program} {Q : Exit → Act → World → Prop} {E w : World} {N : Nat} {r : Nat → Value} {id : Nat} {ops : List Oper} (F : List (List Hp)) (C : Nat → List Hp) (Tp : Nat → Value → List Hp → (Nat → Value) → Prop)
    (hm : P.follows .mixedOrders = true) (m : Nat) (hok : flowOk3 ops = true) (hml : m ≤ ops.length) (hsqb : seqB ops m = true) (H : Has E w (F ++ (List.range ops.length).map C))
    (step : ∀ i o, i < m → ops[i]? = some o → ∀ r' w' G hs, Turn3 E ops F C Tp N r i r' w' G hs → GOK P ops o N r' w' fun v w'' => ∃ h', Tp i (match o.dst with | some _ => v | none => undef) h' (msk ops i (vsOf ops r')) ∧ Has E w'' (h' :: G))
    (fin : ∀ (vs : Nat → Value) (hs : Nat → List Hp) w', (∀ i o, i < m → ops[i]? = some o → Tp i (vs i) (hs i) (msk ops i vs)) → (∀ i, m ≤ i → i < ops.length → hs i = C i) → Has E w' (F ++ (List.range ops.length).map hs) → wpList P ops.toArray Q (ops.drop m) (Go.Q.fr N (puts vs (ops.take m) 0 r)) w') :
    (Code.region id ops.toArray true).wp P Q (Go.Q.fr N r) w := by
  have hsq := seqB_spec hsqb
  refine wp_region_any hm ?_
  -- the state while some are done
  let Inv : Array Bool → Act → World → Prop := fun listed a w => listed.size = ops.length ∧ (∀ i, m ≤ i → listed.getD i false = false) ∧ (∀ i, listed.getD i false = true → ∀ d ∈ depsOf ops i, listed.getD d false = true) ∧
    ∃ r' hs, a = Go.Q.fr N r' ∧ Has E w (F ++ (List.range ops.length).map hs) ∧ (∀ i o, ops[i]? = some o → if listed.getD i false = true then o.dst.isSome = true ∧ Tp i (slot r' o) (hs i) (msk ops i (vsOf ops r')) ∨ o.dst = none ∧ Tp i undef (hs i) (msk ops i (vsOf ops r')) else hs i = C i) ∧
    (∀ t, (∀ i o, ops[i]? = some o → o.dst = some t → listed.getD i false = false) → r' t = r t)
  have key : ∀ fuel listed a w, Inv listed a w → (List.range ops.length).countP (fun i => !listed.getD i false) ≤ fuel → wpAny P .any ops.toArray Q fuel listed a w := by
    have ready0 : ∀ listed : Array Bool, listed.size = ops.length → Region.ready .any ops.toArray listed = [] → ∀ i, i < ops.length → listed.getD i false = true := by
      intro listed hsz hr i
      induction i using Nat.strongRecOn with
      | _ i ih =>
        intro hi
        cases hl : listed.getD i false with
        | true => rfl
        | false =>
          exfalso
          obtain ⟨o, ho⟩ : ∃ o, ops[i]? = some o := ⟨_, List.getElem?_eq_getElem hi⟩
          have : i ∈ Region.ready .any ops.toArray listed := by
            refine mem_ready.2 ⟨?_, o, by simpa using ho, fun e he hb => ?_⟩
            · have : i < listed.size := by omega
              simp [this] at hl ⊢; exact hl
            · have hd := mem_depsOf ho he hb
              have hlt := (flowOk3_spec hok ho).1 _ hd
              exact ih _ hlt (by omega)
          rw [hr] at this; cases this
    have fin' : ∀ fuel listed a w, Inv listed a w → (List.range ops.length).countP (fun i => !listed.getD i false) ≤ fuel → (∀ i, i < m → listed.getD i false = true) → wpAny P .any ops.toArray Q fuel listed a w := by
      rintro fuel listed a w ⟨hsz, hnot, _, r', hs, rfl, hH, hT, hold⟩ hc hall
      let vs : Nat → Value := vsOf ops r'
      have htk : ∀ j o', (ops.take m)[j]? = some o' → ops[j]? = some o' ∧ j < m := fun j o' hj => by
        rw [List.getElem?_take] at hj
        split at hj
        · exact ⟨hj, by assumption⟩
        · cases hj
      have e : Go.Q.fr N r' = Go.Q.fr N (puts vs (ops.take m) 0 r) := by
        refine fr_congr fun t _ => ?_
        by_cases hex : ∃ (i : Nat) (o : Oper), (ops.take m)[i]? = some o ∧ o.dst = some t
        · obtain ⟨i, o, ho, hd⟩ := hex
          rw [puts_new vs (ops.take m) 0 i r o t ho hd (fun j o' hj hne => (flowOk3_spec hok (htk i o ho).1).2 j o' t (htk j o' hj).1 hne hd)]
          simp [vs, vsOf, (htk i o ho).1, slot, hd]
        · rw [puts_old vs (ops.take m) 0 r t (fun o ho hd => by obtain ⟨j, hj⟩ := List.getElem?_of_mem ho; exact hex ⟨j, o, hj, hd⟩)]
          refine hold t (fun i o ho hd => ?_)
          rcases Nat.lt_or_ge i m with g | g
          · exact absurd ⟨i, o, by rw [List.getElem?_take, if_pos g]; exact ho, hd⟩ hex
          · exact hnot i g
      have hw := fin vs hs w (fun i o hi ho => by
        have := hT i o ho
        rw [if_pos (hall i hi)] at this
        have hvs : vs i = slot r' o := by simp only [vs, vsOf, ho]
        rw [hvs]
        rcases this with ⟨_, h⟩ | ⟨hn, h⟩
        · exact h
        · unfold slot; rw [hn]; exact h) (fun i hi hl => by
        have := hT i _ (List.getElem?_eq_getElem hl)
        rw [if_neg (by rw [hnot i hi]; simp)] at this; exact this) hH
      rw [← e] at hw
      have hcount : ops.length - m ≤ (List.range ops.length).countP (fun i => !listed.getD i false) := by
        have : List.range ops.length = List.range m ++ List.range' m (ops.length - m) := by
          have := List.range'_append_1 (s := 0) (m := m) (n := ops.length - m)
          rw [Nat.zero_add] at this
          rw [List.range_eq_range', List.range_eq_range', this]; congr 1; omega
        rw [this, List.countP_append]
        have h2 : (List.range' m (ops.length - m)).countP (fun i => !listed.getD i false) = (List.range' m (ops.length - m)).length := by
          rw [List.countP_eq_length]
          intro i hi
          rw [hnot i (by have := List.mem_range'_1.1 hi; omega)]; rfl
        rw [h2, List.length_range']; omega
      refine seq_any hok (ops.length - m) m listed _ w (by omega) hsz hall hnot hsq ?_ fuel (by omega)
      have := wpOps_eq_wpList (P := P) (Q := Q) (ops := ops.toArray) (ops.drop m) m (fun j => by simp)
      rw [List.length_drop] at this
      rw [this]; exact hw
    intro fuel
    induction fuel with
    | zero =>
      intro listed a w hI hc
      refine fin' 0 listed a w hI hc fun i hi => ?_
      cases hl : listed.getD i false with
      | true => rfl
      | false =>
        have hp : 0 < (List.range ops.length).countP (fun i => !listed.getD i false) := List.countP_pos_iff.2 ⟨i, List.mem_range.2 (by omega), by rw [hl]; rfl⟩
        omega
    | succ fuel ih =>
      intro listed a w hI hc
      by_cases hall : ∀ i, i < m → listed.getD i false = true
      · exact fin' _ listed a w hI hc hall
      refine ⟨fun hr => absurd (fun i hi => ready0 listed hI.1 hr i (by omega)) hall, fun i hi => ?_⟩
      obtain ⟨hsz, hnot, hcl, r', hs, rfl, hH, hT, hold⟩ := hI
      obtain ⟨h0, o, ho', hdone⟩ := mem_ready.1 hi
      have ho : ops[i]? = some o := by simpa using ho'
      have hlt : i < ops.length := (List.getElem?_eq_some_iff.1 ho).1
      have hli : listed.getD i false = false := by
        have hs : i < listed.size := by omega
        simp [hs] at h0 ⊢; exact h0
      obtain ⟨hdlt, hdist⟩ := flowOk3_spec hok ho
      have hdeps : ∀ d ∈ depsOf ops i, listed.getD d false = true := by
        intro d hd
        unfold depsOf at hd
        rw [ho] at hd
        obtain ⟨e, he, heq⟩ := List.mem_filterMap.1 hd
        split at heq
        · cases heq; exact hdone e (by simpa using he) (by assumption)
        · cases heq
      have him : i < m := by
        rcases Nat.lt_or_ge i m with g | g
        · exact g
        · exact absurd (fun j hj => anc_trans3 hok hcl _ i j (hsq i j g hlt (by omega)) hdeps) hall
      -- the heaplets: the one at i in front
      let G : List (List Hp) := F ++ ((List.range i).map hs ++ (List.range' (i + 1) (ops.length - (i + 1))).map hs)
      have hsplit : List.range ops.length = List.range i ++ i :: List.range' (i + 1) (ops.length - (i + 1)) := by
        rw [List.range_eq_range', List.range_eq_range', show i :: List.range' (i + 1) (ops.length - (i + 1)) = List.range' i (ops.length - i) from by
          rw [show ops.length - i = (ops.length - (i + 1)) + 1 by omega, List.range'_succ]]
        have := List.range'_append_1 (s := 0) (m := i) (n := ops.length - i)
        rw [Nat.zero_add] at this
        rw [this]; congr 1; omega
      have mapsplit : ∀ f : Nat → List Hp, (List.range ops.length).map f = (List.range i).map f ++ f i :: (List.range' (i + 1) (ops.length - (i + 1))).map f := by
        intro f; rw [hsplit]; simp
      have hperm : ∀ f : Nat → List Hp, (F ++ (List.range ops.length).map f).Perm (f i :: (F ++ ((List.range i).map f ++ (List.range' (i + 1) (ops.length - (i + 1))).map f))) := by
        intro f
        rw [mapsplit f, ← List.append_assoc, ← List.append_assoc]
        exact List.perm_middle
      have hhi : hs i = C i := by have := hT i o ho; rw [if_neg (by rw [hli]; simp)] at this; exact this
      have inG : ∀ j, j < ops.length → j ≠ i → hs j ∈ G := by
        intro j hj hne
        refine List.mem_append_right _ ?_
        rcases Nat.lt_or_gt_of_ne hne with h | h
        · exact List.mem_append_left _ (List.mem_map.2 ⟨j, List.mem_range.2 h, rfl⟩)
        · exact List.mem_append_right _ (List.mem_map.2 ⟨j, by rw [List.mem_range'_1]; omega, rfl⟩)
      have subG : ∀ s ∈ G, s ⊆ G.flatten := fun s hs' x hx => List.mem_flatten.2 ⟨s, hs', hx⟩
      have ancNe : ∀ j, listed.getD j false = true → j ≠ i := fun j hj e => by rw [e, hli] at hj; cases hj
      have turn : Turn3 E ops F C Tp N r i r' w G hs := by
        refine ⟨?_, fun s hs' => subG s (List.mem_append_left _ hs'), fun j oj hoj hanc => ?_, fun j hanc => ?_, fun t ht => ?_, fun j oj hoj hne => ?_⟩
        · rw [← hhi]; exact hH.perm (hperm hs).symm
        · have hl := anc_trans3 hok hcl _ i j hanc hdeps
          refine ⟨?_, subG _ (inG j (List.getElem?_eq_some_iff.1 hoj).1 (ancNe j hl))⟩
          have := hT j oj hoj
          rw [if_pos hl] at this
          rcases this with ⟨_, h⟩ | ⟨hn, h⟩
          · exact h
          · unfold slot; rw [hn]; exact h
        · cases hj : ops[j]? with
          | none =>
            exfalso
            unfold anc at hanc
            split at hanc
            · cases hanc
            · simp [depsOf, hj] at hanc
          | some oj =>
            have hnl : listed.getD j false = false := by
              cases hl : listed.getD j false with
              | false => rfl
              | true =>
                have := anc_trans3 hok hcl _ j i hanc (hcl j hl)
                rw [hli] at this; cases this
            have hjl := (List.getElem?_eq_some_iff.1 hj).1
            have hne : j ≠ i := by
              rintro rfl
              have := anc_trans3 hok hcl _ j j hanc hdeps
              rw [hli] at this; cases this
            have := hT j oj hj
            rw [if_neg (by rw [hnl]; simp)] at this
            rw [← this]; exact subG _ (inG j hjl hne)
        · refine hold t (fun j oj hoj hd => ?_)
          rcases ht j oj hoj hd with rfl | hanc
          · exact hli
          · cases hl : listed.getD j false with
            | false => rfl
            | true =>
              have := anc_trans3 hok hcl _ j i hanc (hcl j hl)
              rw [hli] at this; cases this
        · have hG := subG _ (inG j (List.getElem?_eq_some_iff.1 hoj).1 hne)
          have := hT j oj hoj
          cases hl : listed.getD j false with
          | true =>
            rw [if_pos hl] at this
            rcases this with ⟨_, h⟩ | ⟨_, h⟩
            · exact .inr ⟨⟨_, _, h⟩, hG⟩
            · exact .inr ⟨⟨_, _, h⟩, hG⟩
          | false =>
            rw [if_neg (by rw [hl]; simp)] at this
            rw [← this]; exact .inl hG
      have hstep := step i o him ho r' w G hs turn
      have hnext : ∀ (v : Value) (w'' : World), (∃ h', Tp i (match o.dst with | some _ => v | none => undef) h' (msk ops i (vsOf ops r')) ∧ Has E w'' (h' :: G)) →
          wpAny P .any ops.toArray Q fuel (listed.setIfInBounds i true) ((Go.Q.fr N r').put o.dst v) w'' := ?_
      · exact GOK.wp ho' hstep hnext
      rintro v w'' ⟨h', hTi, hH'⟩
      refine ih _ _ _ ⟨by simpa using hsz, fun j hj => by rw [getD_set_ne false (show i ≠ j by omega)]; exact hnot j hj, ?_, ?_⟩ ?_
      · intro j hj d hd
        by_cases hji : i = j
        · subst hji; exact getD_set_true (hdeps d hd)
        · rw [getD_set_ne false hji] at hj
          exact getD_set_true (hcl j hj d hd)
      · let hs' : Nat → List Hp := fun j => if j = i then h' else hs j
        have hsG : F ++ ((List.range i).map hs' ++ (List.range' (i + 1) (ops.length - (i + 1))).map hs') = G := by
          have e1 : (List.range i).map hs' = (List.range i).map hs := List.map_congr_left fun j hj => by
            have := List.mem_range.1 hj; simp only [hs']; rw [if_neg (by omega)]
          have e2 : (List.range' (i + 1) (ops.length - (i + 1))).map hs' = (List.range' (i + 1) (ops.length - (i + 1))).map hs := List.map_congr_left fun j hj => by
            have := List.mem_range'_1.1 hj; simp only [hs']; rw [if_neg (by omega)]
          rw [e1, e2]
        have hH2 : Has E w'' (F ++ (List.range ops.length).map hs') := by
          refine hH'.perm ((hperm hs').trans ?_)
          rw [hsG]
          simp [hs']
        have hset : ∀ j, j ≠ i → (listed.setIfInBounds i true).getD j false = listed.getD j false := fun j hj => getD_set_ne false (Ne.symm hj)
        have hseti : (listed.setIfInBounds i true).getD i false = true := by
          have : i < listed.size := by omega
          simp [this]
        cases hd : o.dst with
        | none =>
          refine ⟨r', hs', by rw [fr_put_none], hH2, fun j oj hoj => ?_, fun t ht => hold t fun j oj hoj hdj => ?_⟩
          · by_cases hji : j = i
            · subst hji
              rw [ho] at hoj; cases hoj
              rw [if_pos hseti]
              rw [hd] at hTi
              exact .inr ⟨hd, by simpa [hs'] using hTi⟩
            · rw [hset j hji]
              have := hT j oj hoj
              simpa [hs', hji] using this
          · by_cases hji : j = i
            · subst hji; exact hli
            · have := ht j oj hoj hdj; rwa [hset j hji] at this
        | some d =>
          refine ⟨upd r' d v, hs', by rw [fr_put], hH2, fun j oj hoj => ?_, fun t ht => ?_⟩
          · by_cases hji : j = i
            · subst hji
              rw [ho] at hoj; cases hoj
              rw [if_pos hseti]
              refine .inl ⟨by rw [hd]; rfl, ?_⟩
              rw [hd] at hTi
              rw [msk_upd3 hok ho hd (fun k hk => ancNe k (anc_trans3 hok hcl _ j k hk hdeps))]
              simp only [slot, hd, upd_same, hs', if_true]; exact hTi
            · rw [hset j hji]
              have := hT j oj hoj
              have hne : oj.dst ≠ some d := hdist j oj d hoj hji hd
              have hsl : slot (upd r' d v) oj = slot r' oj := by
                unfold slot
                cases hdj : oj.dst with
                | none => rfl
                | some t => exact upd_ne _ _ (fun e => hne (by rw [hdj, e]))
              cases hlj : listed.getD j false with
              | true =>
                rw [msk_upd3 hok ho hd (fun k hk => ancNe k (anc_trans3 hok hcl _ j k hk (hcl j hlj)))]
                simpa [hs', hji, hsl, hlj] using this
              | false => simpa [hs', hji, hlj] using this
          · have hne : t ≠ d := by
              rintro rfl
              have := ht i o ho hd
              rw [hseti] at this; cases this
            rw [upd_ne _ _ hne]
            refine hold t fun j oj hoj hdj => ?_
            by_cases hji : j = i
            · subst hji; exact hli
            · have := ht j oj hoj hdj; rwa [hset j hji] at this
      · have : (List.range ops.length).countP (fun j => !(listed.setIfInBounds i true).getD j false) < (List.range ops.length).countP (fun j => !listed.getD j false) := by
          have hset : ∀ j, j ≠ i → (listed.setIfInBounds i true).getD j false = listed.getD j false := fun j hj => getD_set_ne false (Ne.symm hj)
          have hseti : (listed.setIfInBounds i true).getD i false = true := by
            have : i < listed.size := by omega
            simp [this]
          rw [hsplit, List.countP_append, List.countP_cons, List.countP_append, List.countP_cons, hseti, hli]
          have e1 : (List.range i).countP (fun j => !(listed.setIfInBounds i true).getD j false) = (List.range i).countP (fun j => !listed.getD j false) :=
            List.countP_congr fun j hj => by have := List.mem_range.1 hj; rw [hset j (by omega)]
          have e2 : (List.range' (i + 1) (ops.length - (i + 1))).countP (fun j => !(listed.setIfInBounds i true).getD j false) = (List.range' (i + 1) (ops.length - (i + 1))).countP (fun j => !listed.getD j false) :=
            List.countP_congr fun j hj => by have := List.mem_range'_1.1 hj; rw [hset j (by omega)]
          rw [e1, e2]; simp
        omega
  have h0 : Inv (Array.replicate ops.toArray.size false) (Go.Q.fr N r) { w with drawn := w.drawn + 1 } := by
    have hf : ∀ i, (Array.replicate ops.toArray.size false).getD i false = false := by
      intro i; by_cases h : i < ops.length <;> simp [h]
    refine ⟨by simp, fun i _ => hf i, fun i hi => ?_, r, C, rfl, H.drew _, fun i o _ => ?_, fun _ _ => rfl⟩
    · rw [hf] at hi; cases hi
    · rw [if_neg (by rw [hf]; simp)]
  refine key _ _ _ _ h0 ?_
  refine Nat.le_trans List.countP_le_length (by simp)

end Go.Q
namespace Go.Q
/-- All that is behind m waits for all that is ahead. -/
def barB (ops : List Oper) (m : Nat) : Bool := (List.range' m (ops.length - m)).all fun i => (List.range m).all fun j => anc ops ops.length i j
theorem barB_spec {ops : List Oper} {m : Nat} (h : barB ops m = true) : ∀ i j, m ≤ i → i < ops.length → j < m → anc ops ops.length i j = true := fun i j h1 h2 h3 => by
  unfold barB at h
  rw [List.all_eq_true] at h
  have := h i (List.mem_range'_1.2 (by omega))
  rw [List.all_eq_true] at this
  exact this j (List.mem_range.2 h3)
/-- What is to be shown where the first m operations are done. -/
def Rest (P : Program) (Q : Exit → Act → World → Prop) (ops : List Oper) (m : Nat) (a : Act) (w : World) : Prop :=
  flowOk3 ops = true → ∀ (fuel : Nat) (listed : Array Bool), listed.size = ops.length → (∀ i, i < m → listed.getD i false = true) → (∀ i, m ≤ i → listed.getD i false = false) → ops.length - m ≤ fuel → wpAny P .any ops.toArray Q fuel listed a w
theorem Rest.region {P : Program} {Q : Exit → Act → World → Prop} {w : World} {N : Nat} {r : Nat → Value} {id : Nat} {ops : List Oper} (hm : P.follows .mixedOrders = true) (hok : flowOk3 ops = true) (h : Rest P Q ops 0 (Go.Q.fr N r) { w with drawn := w.drawn + 1 }) : (Code.region id ops.toArray true).wp P Q (Go.Q.fr N r) w := by
  refine wp_region_any hm (h hok _ _ (by simp) (fun i hi => absurd hi (Nat.not_lt_zero _)) (fun i _ => ?_) (by simp))
  by_cases h : i < ops.length <;> simp [h]
theorem Rest.end {P : Program} {Q : Exit → Act → World → Prop} {ops : List Oper} {a : Act} {w : World} (h : Q .normal a w) : Rest P Q ops ops.length a w := fun _ fuel listed hsz hall _ _ => by
  refine wpAny_done ?_ h fuel
  rw [List.eq_nil_iff_forall_not_mem]
  intro i hi
  obtain ⟨h0, o, ho, _⟩ := mem_ready.1 hi
  have hlt : i < ops.length := by simpa using (Array.getElem?_eq_some_iff.1 ho).1
  have h1 := hall i hlt
  have hs : i < listed.size := by omega
  simp [hs] at h0 h1; rw [h0] at h1; cases h1
theorem Rest.done {P : Program} {Q : Exit → Act → World → Prop} {ops : List Oper} {a : Act} {w : World} {m : Nat} (hm : m = ops.length) (h : Q .normal a w) : Rest P Q ops m a w := hm ▸ Rest.end h
theorem Rest.one {P : Program} {Q : Exit → Act → World → Prop} {ops : List Oper} {N : Nat} {r : Nat → Value} {w : World} {k : Nat} {o : Oper} (ho : ops[k]? = some o) (hb : barB ops (k + 1) = true)
    (h : GOK P ops o N r w fun v w'' => Rest P Q ops (k + 1) ((Go.Q.fr N r).put o.dst v) w'') : Rest P Q ops k (Go.Q.fr N r) w := by
  intro hok fuel listed hsz hall hnot hf
  have hlk : k < ops.length := (List.getElem?_eq_some_iff.1 ho).1
  obtain ⟨f, rfl⟩ : ∃ f, fuel = f + 1 := ⟨fuel - 1, by omega⟩
  have hcl : ∀ i, listed.getD i false = true → ∀ d ∈ depsOf ops i, listed.getD d false = true := fun i hi d hd => by
    have hik : i < k := by
      rcases Nat.lt_or_ge i k with g | g
      · exact g
      · rw [hnot i g] at hi; cases hi
    have := (flowOk3_spec hok (List.getElem?_eq_getElem (show i < ops.length by omega))).1 d hd
    exact hall d (by omega)
  have hkr : k ∈ Region.ready .any ops.toArray listed := by
    refine mem_ready.2 ⟨?_, ops[k], by simp [hlk], fun e he hb => ?_⟩
    · have h1 := hnot k (Nat.le_refl _)
      have hs : k < listed.size := by omega
      simp [hs] at h1 ⊢; exact h1
    · have hd := mem_depsOf (List.getElem?_eq_getElem hlk) he hb
      exact hall _ ((flowOk3_spec hok (List.getElem?_eq_getElem hlk)).1 _ hd)
  refine ⟨fun hr => (by rw [hr] at hkr; cases hkr), fun i hi => ?_⟩
  obtain ⟨h0, o', ho', hdone⟩ := mem_ready.1 hi
  have hlt : i < ops.length := by simpa using (Array.getElem?_eq_some_iff.1 ho').1
  have hli : listed.getD i false = false := by
    have hs : i < listed.size := by omega
    simp [hs] at h0 ⊢; exact h0
  have hdeps : ∀ d ∈ depsOf ops i, listed.getD d false = true := by
    intro d hd
    unfold depsOf at hd
    rw [show ops[i]? = some o' by simpa using ho'] at hd
    obtain ⟨e, he, heq⟩ := List.mem_filterMap.1 hd
    split at heq
    · cases heq; exact hdone e (by simpa using he) (by assumption)
    · cases heq
  have hik : i = k := by
    rcases Nat.lt_trichotomy i k with g | g | g
    · rw [hall i g] at hli; cases hli
    · exact g
    · have := anc_trans3 hok hcl _ i k (barB_spec hb i k (by omega) hlt (by omega)) hdeps
      rw [hnot k (Nat.le_refl _)] at this; cases this
  subst hik
  refine GOK.wp (by simpa using ho) h fun v w'' hk => hk hok f _ (by simpa using hsz) (fun j hj => ?_) (fun j hj => ?_) (by omega)
  · by_cases e : i = j
    · subst e
      have : i < listed.size := by omega
      simp [this]
    · rw [getD_set_ne false e]; exact hall j (by omega)
  · rw [getD_set_ne false (show i ≠ j by omega)]; exact hnot j (by omega)
section
variable {P : Program} {Q : Exit → Act → World → Prop} {ops : List Oper} {N : Nat} {r : Nat → Value} {w : World}
theorem r_op {d : Nat} {op : Op} {T : TypeId} {pos : String} {after : Array Edge} (k : Nat) (ho : ops[k]? = some ⟨some d, op, T, pos, after, none⟩) (hb : barB ops (k + 1) = true)
    (h : OK P ⟨some d, op, T, pos, after, none⟩ (ev N r) w fun v w' => Rest P Q ops (k + 1) (Go.Q.fr N (upd r d v)) w') : Rest P Q ops k (Go.Q.fr N r) w :=
  Rest.one ho hb (GOK.free rfl (h.mono fun v w' hk => by rw [fr_put]; exact hk))
theorem r_eff {op : Op} {T : TypeId} {pos : String} {after : Array Edge} (k : Nat) (ho : ops[k]? = some ⟨none, op, T, pos, after, none⟩) (hb : barB ops (k + 1) = true)
    (h : OK P ⟨none, op, T, pos, after, none⟩ (ev N r) w fun _ w' => Rest P Q ops (k + 1) (Go.Q.fr N r) w') : Rest P Q ops k (Go.Q.fr N r) w :=
  Rest.one ho hb (GOK.free rfl (h.mono fun v w' hk => by rw [fr_put_none]; exact hk))
theorem r_on {d : Nat} {op : Op} {T : TypeId} {pos : String} {after : Array Edge} {g : Nat} {b : Bool} (k : Nat) (ho : ops[k]? = some ⟨some d, op, T, pos, after, some (g, b)⟩) (hb : barB ops (k + 1) = true) (t : Nat) (hgt : dstOf ops g = some t) (hv : ev N r (.tmp t) = .bool b)
    (h : OK P ⟨some d, op, T, pos, after, some (g, b)⟩ (ev N r) w fun v w' => Rest P Q ops (k + 1) (Go.Q.fr N (upd r d v)) w') : Rest P Q ops k (Go.Q.fr N r) w :=
  Rest.one ho hb (GOK.on rfl hgt hv (h.mono fun v w' hk => by rw [fr_put]; exact hk))
theorem r_off {d : Nat} {op : Op} {T : TypeId} {pos : String} {after : Array Edge} {g : Nat} {b b' : Bool} (k : Nat) (ho : ops[k]? = some ⟨some d, op, T, pos, after, some (g, b)⟩) (hb : barB ops (k + 1) = true) (t : Nat) (hgt : dstOf ops g = some t) (hv : ev N r (.tmp t) = .bool b') (hne : (b' == b) = false)
    (h : Rest P Q ops (k + 1) (Go.Q.fr N (upd r d undef)) w) : Rest P Q ops k (Go.Q.fr N r) w :=
  Rest.one ho hb (GOK.off rfl hgt hv hne (by rw [fr_put]; exact h))
theorem r_offu {d : Nat} {op : Op} {T : TypeId} {pos : String} {after : Array Edge} {g : Nat} {b : Bool} (k : Nat) (ho : ops[k]? = some ⟨some d, op, T, pos, after, some (g, b)⟩) (hb : barB ops (k + 1) = true) (t : Nat) (hgt : dstOf ops g = some t) (hv : ev N r (.tmp t) = undef)
    (h : Rest P Q ops (k + 1) (Go.Q.fr N (upd r d undef)) w) : Rest P Q ops k (Go.Q.fr N r) w :=
  Rest.one ho hb (GOK.offu rfl hgt hv (by rw [fr_put]; exact h))
end
theorem Rest.phase {P : Program} {Q : Exit → Act → World → Prop} {E w : World} {N : Nat} {r : Nat → Value} {ops : List Oper} (F : List (List Hp)) (C : Nat → List Hp) (Tp : Nat → Value → List Hp → (Nat → Value) → Prop)
    (m0 m : Nat) (hml : m ≤ ops.length) (hm0 : m0 ≤ m) (hbar : barB ops m = true) (H : Has E w (F ++ (List.range ops.length).map C))
    (done0 : ∀ i o, i < m0 → ops[i]? = some o → Tp i (slot r o) (C i) (msk ops i (vsOf ops r)))
    (step : ∀ i o, m0 ≤ i → i < m → ops[i]? = some o → ∀ r' w' G hs, Turn3 E ops F C Tp N r i r' w' G hs → GOK P ops o N r' w' fun v w'' => ∃ h', Tp i (match o.dst with | some _ => v | none => undef) h' (msk ops i (vsOf ops r')) ∧ Has E w'' (h' :: G))
    (fin : ∀ (vs : Nat → Value) (hs : Nat → List Hp) w', (∀ i o, i < m → ops[i]? = some o → Tp i (vs i) (hs i) (msk ops i vs)) → (∀ i, m ≤ i → i < ops.length → hs i = C i) → Has E w' (F ++ (List.range ops.length).map hs) → Rest P Q ops m (Go.Q.fr N (puts vs (ops.take m) 0 r)) w') :
    Rest P Q ops m0 (Go.Q.fr N r) w := by
  intro hok fuel0 listed0 hsz0 hall0 hnot0 hf0
  have hsq := barB_spec hbar
  -- the state while some are done
  let Inv : Array Bool → Act → World → Prop := fun listed a w => listed.size = ops.length ∧ (∀ i, i < m0 → listed.getD i false = true) ∧ (∀ i, m ≤ i → listed.getD i false = false) ∧ (∀ i, listed.getD i false = true → ∀ d ∈ depsOf ops i, listed.getD d false = true) ∧
    ∃ r' hs, a = Go.Q.fr N r' ∧ Has E w (F ++ (List.range ops.length).map hs) ∧ (∀ i o, ops[i]? = some o → if listed.getD i false = true then o.dst.isSome = true ∧ Tp i (slot r' o) (hs i) (msk ops i (vsOf ops r')) ∨ o.dst = none ∧ Tp i undef (hs i) (msk ops i (vsOf ops r')) else hs i = C i) ∧
    (∀ t, (∀ i o, ops[i]? = some o → o.dst = some t → listed.getD i false = false) → r' t = r t)
  have key : ∀ fuel listed a w, Inv listed a w → (List.range ops.length).countP (fun i => !listed.getD i false) ≤ fuel → wpAny P .any ops.toArray Q fuel listed a w := by
    have ready0 : ∀ listed : Array Bool, listed.size = ops.length → Region.ready .any ops.toArray listed = [] → ∀ i, i < ops.length → listed.getD i false = true := by
      intro listed hsz hr i
      induction i using Nat.strongRecOn with
      | _ i ih =>
        intro hi
        cases hl : listed.getD i false with
        | true => rfl
        | false =>
          exfalso
          obtain ⟨o, ho⟩ : ∃ o, ops[i]? = some o := ⟨_, List.getElem?_eq_getElem hi⟩
          have : i ∈ Region.ready .any ops.toArray listed := by
            refine mem_ready.2 ⟨?_, o, by simpa using ho, fun e he hb => ?_⟩
            · have : i < listed.size := by omega
              simp [this] at hl ⊢; exact hl
            · have hd := mem_depsOf ho he hb
              have hlt := (flowOk3_spec hok ho).1 _ hd
              exact ih _ hlt (by omega)
          rw [hr] at this; cases this
    have fin' : ∀ fuel listed a w, Inv listed a w → (List.range ops.length).countP (fun i => !listed.getD i false) ≤ fuel → (∀ i, i < m → listed.getD i false = true) → wpAny P .any ops.toArray Q fuel listed a w := by
      rintro fuel listed a w ⟨hsz, hpre, hnot, _, r', hs, rfl, hH, hT, hold⟩ hc hall
      let vs : Nat → Value := vsOf ops r'
      have htk : ∀ j o', (ops.take m)[j]? = some o' → ops[j]? = some o' ∧ j < m := fun j o' hj => by
        rw [List.getElem?_take] at hj
        split at hj
        · exact ⟨hj, by assumption⟩
        · cases hj
      have e : Go.Q.fr N r' = Go.Q.fr N (puts vs (ops.take m) 0 r) := by
        refine fr_congr fun t _ => ?_
        by_cases hex : ∃ (i : Nat) (o : Oper), (ops.take m)[i]? = some o ∧ o.dst = some t
        · obtain ⟨i, o, ho, hd⟩ := hex
          rw [puts_new vs (ops.take m) 0 i r o t ho hd (fun j o' hj hne => (flowOk3_spec hok (htk i o ho).1).2 j o' t (htk j o' hj).1 hne hd)]
          simp [vs, vsOf, (htk i o ho).1, slot, hd]
        · rw [puts_old vs (ops.take m) 0 r t (fun o ho hd => by obtain ⟨j, hj⟩ := List.getElem?_of_mem ho; exact hex ⟨j, o, hj, hd⟩)]
          refine hold t (fun i o ho hd => ?_)
          rcases Nat.lt_or_ge i m with g | g
          · exact absurd ⟨i, o, by rw [List.getElem?_take, if_pos g]; exact ho, hd⟩ hex
          · exact hnot i g
      have hw := fin vs hs w (fun i o hi ho => by
        have := hT i o ho
        rw [if_pos (hall i hi)] at this
        have hvs : vs i = slot r' o := by simp only [vs, vsOf, ho]
        rw [hvs]
        rcases this with ⟨_, h⟩ | ⟨hn, h⟩
        · exact h
        · unfold slot; rw [hn]; exact h) (fun i hi hl => by
        have := hT i _ (List.getElem?_eq_getElem hl)
        rw [if_neg (by rw [hnot i hi]; simp)] at this; exact this) hH
      rw [← e] at hw
      have hcount : ops.length - m ≤ (List.range ops.length).countP (fun i => !listed.getD i false) := by
        have : List.range ops.length = List.range m ++ List.range' m (ops.length - m) := by
          have := List.range'_append_1 (s := 0) (m := m) (n := ops.length - m)
          rw [Nat.zero_add] at this
          rw [List.range_eq_range', List.range_eq_range', this]; congr 1; omega
        rw [this, List.countP_append]
        have h2 : (List.range' m (ops.length - m)).countP (fun i => !listed.getD i false) = (List.range' m (ops.length - m)).length := by
          rw [List.countP_eq_length]
          intro i hi
          rw [hnot i (by have := List.mem_range'_1.1 hi; omega)]; rfl
        rw [h2, List.length_range']; omega
      exact hw hok fuel listed hsz hall hnot (by omega)
    intro fuel
    induction fuel with
    | zero =>
      intro listed a w hI hc
      refine fin' 0 listed a w hI hc fun i hi => ?_
      cases hl : listed.getD i false with
      | true => rfl
      | false =>
        have hp : 0 < (List.range ops.length).countP (fun i => !listed.getD i false) := List.countP_pos_iff.2 ⟨i, List.mem_range.2 (by omega), by rw [hl]; rfl⟩
        omega
    | succ fuel ih =>
      intro listed a w hI hc
      by_cases hall : ∀ i, i < m → listed.getD i false = true
      · exact fin' _ listed a w hI hc hall
      refine ⟨fun hr => absurd (fun i hi => ready0 listed hI.1 hr i (by omega)) hall, fun i hi => ?_⟩
      obtain ⟨hsz, hpre, hnot, hcl, r', hs, rfl, hH, hT, hold⟩ := hI
      obtain ⟨h0, o, ho', hdone⟩ := mem_ready.1 hi
      have ho : ops[i]? = some o := by simpa using ho'
      have hlt : i < ops.length := (List.getElem?_eq_some_iff.1 ho).1
      have hli : listed.getD i false = false := by
        have hs : i < listed.size := by omega
        simp [hs] at h0 ⊢; exact h0
      obtain ⟨hdlt, hdist⟩ := flowOk3_spec hok ho
      have hdeps : ∀ d ∈ depsOf ops i, listed.getD d false = true := by
        intro d hd
        unfold depsOf at hd
        rw [ho] at hd
        obtain ⟨e, he, heq⟩ := List.mem_filterMap.1 hd
        split at heq
        · cases heq; exact hdone e (by simpa using he) (by assumption)
        · cases heq
      have him : i < m := by
        rcases Nat.lt_or_ge i m with g | g
        · exact g
        · exact absurd (fun j hj => anc_trans3 hok hcl _ i j (hsq i j g hlt hj) hdeps) hall
      -- the heaplets: the one at i in front
      let G : List (List Hp) := F ++ ((List.range i).map hs ++ (List.range' (i + 1) (ops.length - (i + 1))).map hs)
      have hsplit : List.range ops.length = List.range i ++ i :: List.range' (i + 1) (ops.length - (i + 1)) := by
        rw [List.range_eq_range', List.range_eq_range', show i :: List.range' (i + 1) (ops.length - (i + 1)) = List.range' i (ops.length - i) from by
          rw [show ops.length - i = (ops.length - (i + 1)) + 1 by omega, List.range'_succ]]
        have := List.range'_append_1 (s := 0) (m := i) (n := ops.length - i)
        rw [Nat.zero_add] at this
        rw [this]; congr 1; omega
      have mapsplit : ∀ f : Nat → List Hp, (List.range ops.length).map f = (List.range i).map f ++ f i :: (List.range' (i + 1) (ops.length - (i + 1))).map f := by
        intro f; rw [hsplit]; simp
      have hperm : ∀ f : Nat → List Hp, (F ++ (List.range ops.length).map f).Perm (f i :: (F ++ ((List.range i).map f ++ (List.range' (i + 1) (ops.length - (i + 1))).map f))) := by
        intro f
        rw [mapsplit f, ← List.append_assoc, ← List.append_assoc]
        exact List.perm_middle
      have hhi : hs i = C i := by have := hT i o ho; rw [if_neg (by rw [hli]; simp)] at this; exact this
      have inG : ∀ j, j < ops.length → j ≠ i → hs j ∈ G := by
        intro j hj hne
        refine List.mem_append_right _ ?_
        rcases Nat.lt_or_gt_of_ne hne with h | h
        · exact List.mem_append_left _ (List.mem_map.2 ⟨j, List.mem_range.2 h, rfl⟩)
        · exact List.mem_append_right _ (List.mem_map.2 ⟨j, by rw [List.mem_range'_1]; omega, rfl⟩)
      have subG : ∀ s ∈ G, s ⊆ G.flatten := fun s hs' x hx => List.mem_flatten.2 ⟨s, hs', hx⟩
      have ancNe : ∀ j, listed.getD j false = true → j ≠ i := fun j hj e => by rw [e, hli] at hj; cases hj
      have turn : Turn3 E ops F C Tp N r i r' w G hs := by
        refine ⟨?_, fun s hs' => subG s (List.mem_append_left _ hs'), fun j oj hoj hanc => ?_, fun j hanc => ?_, fun t ht => ?_, fun j oj hoj hne => ?_⟩
        · rw [← hhi]; exact hH.perm (hperm hs).symm
        · have hl := anc_trans3 hok hcl _ i j hanc hdeps
          refine ⟨?_, subG _ (inG j (List.getElem?_eq_some_iff.1 hoj).1 (ancNe j hl))⟩
          have := hT j oj hoj
          rw [if_pos hl] at this
          rcases this with ⟨_, h⟩ | ⟨hn, h⟩
          · exact h
          · unfold slot; rw [hn]; exact h
        · cases hj : ops[j]? with
          | none =>
            exfalso
            unfold anc at hanc
            split at hanc
            · cases hanc
            · simp [depsOf, hj] at hanc
          | some oj =>
            have hnl : listed.getD j false = false := by
              cases hl : listed.getD j false with
              | false => rfl
              | true =>
                have := anc_trans3 hok hcl _ j i hanc (hcl j hl)
                rw [hli] at this; cases this
            have hjl := (List.getElem?_eq_some_iff.1 hj).1
            have hne : j ≠ i := by
              rintro rfl
              have := anc_trans3 hok hcl _ j j hanc hdeps
              rw [hli] at this; cases this
            have := hT j oj hj
            rw [if_neg (by rw [hnl]; simp)] at this
            rw [← this]; exact subG _ (inG j hjl hne)
        · refine hold t (fun j oj hoj hd => ?_)
          rcases ht j oj hoj hd with rfl | hanc
          · exact hli
          · cases hl : listed.getD j false with
            | false => rfl
            | true =>
              have := anc_trans3 hok hcl _ j i hanc (hcl j hl)
              rw [hli] at this; cases this
        · have hG := subG _ (inG j (List.getElem?_eq_some_iff.1 hoj).1 hne)
          have := hT j oj hoj
          cases hl : listed.getD j false with
          | true =>
            rw [if_pos hl] at this
            rcases this with ⟨_, h⟩ | ⟨_, h⟩
            · exact .inr ⟨⟨_, _, h⟩, hG⟩
            · exact .inr ⟨⟨_, _, h⟩, hG⟩
          | false =>
            rw [if_neg (by rw [hl]; simp)] at this
            rw [← this]; exact .inl hG
      have hi0 : m0 ≤ i := by
        rcases Nat.lt_or_ge i m0 with g | g
        · rw [hpre i g] at hli; cases hli
        · exact g
      have hstep := step i o hi0 him ho r' w G hs turn
      have hnext : ∀ (v : Value) (w'' : World), (∃ h', Tp i (match o.dst with | some _ => v | none => undef) h' (msk ops i (vsOf ops r')) ∧ Has E w'' (h' :: G)) →
          wpAny P .any ops.toArray Q fuel (listed.setIfInBounds i true) ((Go.Q.fr N r').put o.dst v) w'' := ?_
      · exact GOK.wp ho' hstep hnext
      rintro v w'' ⟨h', hTi, hH'⟩
      refine ih _ _ _ ⟨by simpa using hsz, fun j hj => by rw [getD_set_ne false (show i ≠ j by omega)]; exact hpre j hj, fun j hj => by rw [getD_set_ne false (show i ≠ j by omega)]; exact hnot j hj, ?_, ?_⟩ ?_
      · intro j hj d hd
        by_cases hji : i = j
        · subst hji; exact getD_set_true (hdeps d hd)
        · rw [getD_set_ne false hji] at hj
          exact getD_set_true (hcl j hj d hd)
      · let hs' : Nat → List Hp := fun j => if j = i then h' else hs j
        have hsG : F ++ ((List.range i).map hs' ++ (List.range' (i + 1) (ops.length - (i + 1))).map hs') = G := by
          have e1 : (List.range i).map hs' = (List.range i).map hs := List.map_congr_left fun j hj => by
            have := List.mem_range.1 hj; simp only [hs']; rw [if_neg (by omega)]
          have e2 : (List.range' (i + 1) (ops.length - (i + 1))).map hs' = (List.range' (i + 1) (ops.length - (i + 1))).map hs := List.map_congr_left fun j hj => by
            have := List.mem_range'_1.1 hj; simp only [hs']; rw [if_neg (by omega)]
          rw [e1, e2]
        have hH2 : Has E w'' (F ++ (List.range ops.length).map hs') := by
          refine hH'.perm ((hperm hs').trans ?_)
          rw [hsG]
          simp [hs']
        have hset : ∀ j, j ≠ i → (listed.setIfInBounds i true).getD j false = listed.getD j false := fun j hj => getD_set_ne false (Ne.symm hj)
        have hseti : (listed.setIfInBounds i true).getD i false = true := by
          have : i < listed.size := by omega
          simp [this]
        cases hd : o.dst with
        | none =>
          refine ⟨r', hs', by rw [fr_put_none], hH2, fun j oj hoj => ?_, fun t ht => hold t fun j oj hoj hdj => ?_⟩
          · by_cases hji : j = i
            · subst hji
              rw [ho] at hoj; cases hoj
              rw [if_pos hseti]
              rw [hd] at hTi
              exact .inr ⟨hd, by simpa [hs'] using hTi⟩
            · rw [hset j hji]
              have := hT j oj hoj
              simpa [hs', hji] using this
          · by_cases hji : j = i
            · subst hji; exact hli
            · have := ht j oj hoj hdj; rwa [hset j hji] at this
        | some d =>
          refine ⟨upd r' d v, hs', by rw [fr_put], hH2, fun j oj hoj => ?_, fun t ht => ?_⟩
          · by_cases hji : j = i
            · subst hji
              rw [ho] at hoj; cases hoj
              rw [if_pos hseti]
              refine .inl ⟨by rw [hd]; rfl, ?_⟩
              rw [hd] at hTi
              rw [msk_upd3 hok ho hd (fun k hk => ancNe k (anc_trans3 hok hcl _ j k hk hdeps))]
              simp only [slot, hd, upd_same, hs', if_true]; exact hTi
            · rw [hset j hji]
              have := hT j oj hoj
              have hne : oj.dst ≠ some d := hdist j oj d hoj hji hd
              have hsl : slot (upd r' d v) oj = slot r' oj := by
                unfold slot
                cases hdj : oj.dst with
                | none => rfl
                | some t => exact upd_ne _ _ (fun e => hne (by rw [hdj, e]))
              cases hlj : listed.getD j false with
              | true =>
                rw [msk_upd3 hok ho hd (fun k hk => ancNe k (anc_trans3 hok hcl _ j k hk (hcl j hlj)))]
                simpa [hs', hji, hsl, hlj] using this
              | false => simpa [hs', hji, hlj] using this
          · have hne : t ≠ d := by
              rintro rfl
              have := ht i o ho hd
              rw [hseti] at this; cases this
            rw [upd_ne _ _ hne]
            refine hold t fun j oj hoj hdj => ?_
            by_cases hji : j = i
            · subst hji; exact hli
            · have := ht j oj hoj hdj; rwa [hset j hji] at this
      · have : (List.range ops.length).countP (fun j => !(listed.setIfInBounds i true).getD j false) < (List.range ops.length).countP (fun j => !listed.getD j false) := by
          have hset : ∀ j, j ≠ i → (listed.setIfInBounds i true).getD j false = listed.getD j false := fun j hj => getD_set_ne false (Ne.symm hj)
          have hseti : (listed.setIfInBounds i true).getD i false = true := by
            have : i < listed.size := by omega
            simp [this]
          rw [hsplit, List.countP_append, List.countP_cons, List.countP_append, List.countP_cons, hseti, hli]
          have e1 : (List.range i).countP (fun j => !(listed.setIfInBounds i true).getD j false) = (List.range i).countP (fun j => !listed.getD j false) :=
            List.countP_congr fun j hj => by have := List.mem_range.1 hj; rw [hset j (by omega)]
          have e2 : (List.range' (i + 1) (ops.length - (i + 1))).countP (fun j => !(listed.setIfInBounds i true).getD j false) = (List.range' (i + 1) (ops.length - (i + 1))).countP (fun j => !listed.getD j false) :=
            List.countP_congr fun j hj => by have := List.mem_range'_1.1 hj; rw [hset j (by omega)]
          rw [e1, e2]; simp
        omega
  have h0 : Inv listed0 (Go.Q.fr N r) w := by
    refine ⟨hsz0, hall0, fun i hi => hnot0 i (by omega), fun i hi d hd => ?_, r, C, rfl, H, fun i o ho => ?_, fun _ _ => rfl⟩
    · have hi0 : i < m0 := by
        rcases Nat.lt_or_ge i m0 with g | g
        · exact g
        · rw [hnot0 i g] at hi; cases hi
      have := (flowOk3_spec hok (List.getElem?_eq_getElem (show i < ops.length by omega))).1 d hd
      exact hall0 d (by omega)
    · rcases Nat.lt_or_ge i m0 with g | g
      · rw [if_pos (hall0 i g)]
        have hd := done0 i o g ho
        cases hdd : o.dst with
        | none => exact .inr ⟨rfl, by unfold slot at hd; rw [hdd] at hd; exact hd⟩
        | some t => exact .inl ⟨rfl, hd⟩
      · rw [if_neg (by rw [hnot0 i g]; simp)]
  refine key _ _ _ _ h0 ?_
  have e0 : List.range ops.length = List.range m0 ++ List.range' m0 (ops.length - m0) := by
    have := List.range'_append_1 (s := 0) (m := m0) (n := ops.length - m0)
    rw [Nat.zero_add] at this
    rw [List.range_eq_range', List.range_eq_range', this]; congr 1; omega
  rw [e0, List.countP_append]
  have e1 : (List.range m0).countP (fun i => !listed0.getD i false) = 0 := by
    rw [List.countP_eq_zero]
    intro i hi
    rw [hall0 i (List.mem_range.1 hi)]; simp
  have e2 : (List.range' m0 (ops.length - m0)).countP (fun i => !listed0.getD i false) ≤ ops.length - m0 := Nat.le_trans List.countP_le_length (by rw [List.length_range']; exact Nat.le_refl _)
  omega
end Go.Q
namespace Go.Q
section
variable {P : Program} {ops : List Oper} {Q : Exit → Act → World → Prop}
/-- One operation, wanted or not. -/
def okOp (P : Program) (ops : List Oper) (i : Nat) (K : Act → World → Prop) (a : Act) (w : World) : Prop :=
  ∃ o, ops[i]? = some o ∧ ((Region.wanted o (yielded ops.toArray a.tmps) = true ∧ OK P o a.eval w fun v w' => K (a.put o.dst v) w') ∨ (Region.wanted o (yielded ops.toArray a.tmps) = false ∧ K (a.put o.dst undef) w))
theorem okOp.mono {i : Nat} {K K' : Act → World → Prop} {a : Act} {w : World} (h : okOp P ops i K a w) (hk : ∀ a w, K a w → K' a w) : okOp P ops i K' a w := by
  obtain ⟨o, ho, ⟨h1, h2⟩ | ⟨h1, h2⟩⟩ := h
  · exact ⟨o, ho, .inl ⟨h1, h2.mono fun v w' => hk _ _⟩⟩
  · exact ⟨o, ho, .inr ⟨h1, hk _ _ h2⟩⟩
theorem okOp.wp {i : Nat} {K : Act → World → Prop} {a : Act} {w : World} (h : okOp P ops i K a w) : wpOp P ops.toArray Q i K a w := by
  obtain ⟨o, ho, h⟩ := h
  unfold wpOp
  rw [show ops.toArray[i]? = some o by simpa using ho]
  rcases h with ⟨h1, h2⟩ | ⟨h1, h2⟩
  · simp only [h1, if_true]; exact .inl h2.wp
  · simp only [h1, Bool.false_eq_true, if_false]; exact h2
def allB (hi : Nat) (l : Array Bool) : Bool := (List.range hi).all fun i => l.getD i false
/-- All orders of the phase that ends ahead of hi, n operations are left; I holds all the way. -/
def anyI (P : Program) (ops : List Oper) (hi : Nat) (K : Act → World → Prop) (I : World → Prop) : Nat → Array Bool → Act → World → Prop
  | 0, l, a, w => I w ∧ allB hi l = true ∧ K a w
  | n + 1, l, a, w => I w ∧ allB hi l = false ∧ ∀ i ∈ Region.ready .any ops.toArray l, i < hi → okOp P ops i (anyI P ops hi K I n (l.setIfInBounds i true)) a w
theorem anyI.inv {hi : Nat} {K : Act → World → Prop} {I : World → Prop} : ∀ {n : Nat} {l : Array Bool} {a : Act} {w : World}, anyI P ops hi K I n l a w → I w
  | 0, _, _, _, h => h.1
  | _ + 1, _, _, _, h => h.1
/-- It gives this value wherever I holds, and changes nothing. -/
def YI (P : Program) (ops : List Oper) (o : Oper) (v : Value) (a : Act) (I : World → Prop) : Prop :=
  (Region.wanted o (yielded ops.toArray a.tmps) = true ∧ ∀ w, I w → OK P o a.eval w fun v' w' => v' = v ∧ w' = w) ∨ (Region.wanted o (yielded ops.toArray a.tmps) = false ∧ v = undef)
theorem OK.congr {o : Oper} {ρ ρ' : Operand → Value} {w : World} {K : Value → World → Prop} (h : execOp ρ' o = execOp ρ o) (k : OK P o ρ w K) : OK P o ρ' w K := by
  unfold OK at *; rw [h]; exact k
theorem YI.same {o : Oper} {v : Value} {a a' : Act} {I : World → Prop} (h : YI P ops o v a I) (he : execOp a'.eval o = execOp a.eval o) (hw : Region.wanted o (yielded ops.toArray a'.tmps) = Region.wanted o (yielded ops.toArray a.tmps)) : YI P ops o v a' I := by
  unfold YI at *
  rw [hw]
  exact h.imp (fun g => ⟨g.1, fun w hI => (g.2 w hI).congr he⟩) id
theorem YI.ok {i : Nat} {o : Oper} {v : Value} {a : Act} {I : World → Prop} {K : Act → World → Prop} {w : World} (hi : ops[i]? = some o) (h : YI P ops o v a I) (hI : I w) (hk : K (a.put o.dst v) w) : okOp P ops i K a w := by
  refine ⟨o, hi, ?_⟩
  rcases h with ⟨h1, h2⟩ | ⟨h1, rfl⟩
  · exact .inl ⟨h1, (h2 w hI).mono fun v' w' ⟨e1, e2⟩ => by rw [e1, e2]; exact hk⟩
  · exact .inr ⟨h1, hk⟩
theorem okOp_put {j : Nat} {oi oj : Oper} {v : Value} {I : World → Prop} (hj : ops[j]? = some oj) (hap : oi.apart ops.toArray oj = true) (hsi : ∀ cs b, oi.op ≠ .select cs b) (hsj : ∀ cs b, oj.op ≠ .select cs b)
    {K : Act → World → Prop} {a : Act} {w : World} (hy : YI P ops oi v a I) (h : okOp P ops j K (a.put oi.dst v) w) : okOp P ops j (fun a' w' => YI P ops oi v a' I ∧ K (a'.put oi.dst v) w') a w := by
  obtain ⟨h1, h2, h3⟩ := Oper.apart_spec hap
  have keep : ∀ u, YI P ops oi v (a.put oj.dst u) I := fun u => hy.same (execOp_put oi hsi a oj.dst u h3) (wanted_put oi a oj.dst u h3)
  obtain ⟨o, ho, h⟩ := h
  obtain rfl : o = oj := Option.some.inj (ho.symm.trans hj)
  refine ⟨o, ho, ?_⟩
  rw [wanted_put o a oi.dst v h1] at h
  rcases h with ⟨g1, g2⟩ | ⟨g1, g2⟩
  · refine .inl ⟨g1, OK.congr (execOp_put o hsj a oi.dst v h1).symm (g2.mono fun u w' hk => ⟨keep u, ?_⟩)⟩
    rw [← Act.put_comm a v u h2]; exact hk
  · refine .inr ⟨g1, keep _, ?_⟩
    rw [← Act.put_comm a v undef h2]; exact g2
theorem ready_un {i : Nat} {l : Array Bool} (h : i ∈ Region.ready .any ops.toArray l) : l.getD i false = false ∧ i < l.size := by
  have h0 := (mem_ready.1 h).1
  rcases Nat.lt_or_ge i l.size with g | g
  · refine ⟨?_, g⟩
    simp [g] at h0 ⊢; exact h0
  · simp [Array.getElem?_eq_none g] at h0
theorem allB_un {hi i : Nat} {l : Array Bool} (h : l.getD i false = false) (hlt : i < hi) : allB hi l = false := by
  cases e : allB hi l with
  | false => rfl
  | true =>
    unfold allB at e
    rw [List.all_eq_true] at e
    have := e i (List.mem_range.2 hlt)
    rw [h] at this; cases this
theorem anyI_first {hi i : Nat} {oi : Oper} {v : Value} {K : Act → World → Prop} {I : World → Prop} (hoi : ops[i]? = some oi) (hlt : i < hi) (hsel : ∀ (j : Nat) (o : Oper) cs b, ops[j]? = some o → o.op ≠ .select cs b) :
    ∀ (n : Nat) (l : Array Bool) (a : Act) (w : World),
      (∀ j oj, ops[j]? = some oj → j ≠ i → l.getD j true = false → (∀ e ∈ oj.after, Region.binds .any e = true → e.on ≠ i) → oi.apart ops.toArray oj = true) →
      i ∈ Region.ready .any ops.toArray l → YI P ops oi v a I → anyI P ops hi K I n (l.setIfInBounds i true) (a.put oi.dst v) w → anyI P ops hi K I (n + 1) l a w := by
  intro n
  induction n with
  | zero =>
    intro l a w _ hr hy H
    have hu := ready_un hr
    refine ⟨H.inv, allB_un hu.1 hlt, fun j hj hjh => ?_⟩
    by_cases hji : j = i
    · subst hji; exact hy.ok hoi H.inv H
    · have h2 := ready_un (ready_mono hj hji)
      have := allB_un h2.1 hjh
      rw [H.2.1] at this; cases this
  | succ n ih =>
    intro l a w hfree hr hy H
    have hu := ready_un hr
    refine ⟨H.inv, allB_un hu.1 hlt, fun j hj hjh => ?_⟩
    by_cases hji : j = i
    · subst hji; exact hy.ok hoi H.inv H
    · have h1 := H.2.2 j (ready_mono hj hji) hjh
      obtain ⟨hjun, oj, hoj, hall⟩ := mem_ready.1 hj
      have hoj' : ops[j]? = some oj := by simpa using hoj
      have hnot : ∀ e ∈ oj.after, Region.binds .any e = true → e.on ≠ i := fun e he hb heq => by
        have h1 := hall e he hb
        rw [heq, hu.1] at h1; cases h1
      have h2 := okOp_put hoj' (hfree j oj hoj' hji hjun hnot) (fun cs b => hsel i oi cs b hoi) (fun cs b => hsel j oj cs b hoj') hy h1
      have hfree' : ∀ k ok, ops[k]? = some ok → k ≠ i → (l.setIfInBounds j true).getD k true = false → (∀ e ∈ ok.after, Region.binds .any e = true → e.on ≠ i) → oi.apart ops.toArray ok = true := fun k ok hk hki hun hno => by
        refine hfree k ok hk hki ?_ hno
        by_cases hjk : j = k
        · subst hjk; exact hjun
        · rw [getD_set_ne true hjk] at hun; exact hun
      refine h2.mono fun a' w' h3 => ih (l.setIfInBounds j true) a' w' hfree' (ready_mono hr (Ne.symm hji)) h3.1 ?_
      rw [Array.setIfInBounds_comm _ _ hji]
      exact h3.2
theorem anyI_wp {hi : Nat} {I : World → Prop} (hok : flowOk3 ops = true) (hbar : barB ops hi = true) (hhi : hi ≤ ops.length) : ∀ (n fuel : Nat) (l : Array Bool) (a : Act) (w : World), l.size = ops.length → (∀ i, hi ≤ i → l.getD i false = false) →
    (∀ i, l.getD i false = true → ∀ d ∈ depsOf ops i, l.getD d false = true) → n + (ops.length - hi) ≤ fuel → anyI P ops hi (Rest P Q ops hi) I n l a w → wpAny P .any ops.toArray Q fuel l a w
  | 0, fuel, l, a, w, hsz, hnot, _, hf, h => by
    refine h.2.2 hok fuel l hsz (fun i hi' => ?_) hnot (by omega)
    have := h.2.1
    unfold allB at this
    rw [List.all_eq_true] at this
    exact this i (List.mem_range.2 hi')
  | n + 1, fuel, l, a, w, hsz, hnot, hcl, hf, h => by
    obtain ⟨f, rfl⟩ : ∃ f, fuel = f + 1 := ⟨fuel - 1, by omega⟩
    obtain ⟨_, hall, hr⟩ := h
    obtain ⟨m, hm, hum, hmin⟩ : ∃ m, m < hi ∧ l.getD m false = false ∧ ∀ j, j < m → l.getD j false = true := by
      unfold allB at hall
      rw [List.all_eq_false] at hall
      obtain ⟨x, hx, hxu⟩ := hall
      have hx' : x < hi := List.mem_range.1 hx
      have hxu' : l.getD x false = false := by simpa using hxu
      clear hxu hx
      induction x using Nat.strongRecOn with
      | ind x ih =>
        by_cases g : ∃ j, j < x ∧ l.getD j false = false
        · obtain ⟨j, hj, hju⟩ := g; exact ih j hj (by omega) hju
        · exact ⟨x, hx', hxu', fun j hj => by
            cases e : l.getD j false with
            | true => rfl
            | false => exact absurd ⟨j, hj, e⟩ g⟩
    have hml : m < ops.length := by omega
    have hmr : m ∈ Region.ready .any ops.toArray l := by
      refine mem_ready.2 ⟨?_, ops[m], by simp [hml], fun e he hb => ?_⟩
      · have hs : m < l.size := by omega
        simp [hs] at hum ⊢; exact hum
      · have hd := mem_depsOf (List.getElem?_eq_getElem hml) he hb
        exact hmin _ ((flowOk3_spec hok (List.getElem?_eq_getElem hml)).1 _ hd)
    refine ⟨fun g => (by rw [g] at hmr; cases hmr), fun i hi' => ?_⟩
    obtain ⟨hiu, his⟩ := ready_un hi'
    obtain ⟨_, o, ho, hdone⟩ := mem_ready.1 hi'
    have ho' : ops[i]? = some o := by simpa using ho
    have hdeps : ∀ d ∈ depsOf ops i, l.getD d false = true := by
      intro d hd
      unfold depsOf at hd
      rw [ho'] at hd
      obtain ⟨e, he, heq⟩ := List.mem_filterMap.1 hd
      split at heq
      · cases heq; exact hdone e (by simpa using he) (by assumption)
      · cases heq
    have hih : i < hi := by
      rcases Nat.lt_or_ge i hi with g | g
      · exact g
      · have := anc_trans3 hok hcl _ i m (barB_spec hbar i m g (by omega) hm) hdeps
        rw [hum] at this; cases this
    refine wpOp_mono ?_ (hr i hi' hih).wp
    intro a' w' h'
    refine anyI_wp hok hbar hhi n f _ a' w' (by simpa using hsz) (fun j hj => ?_) (fun j hj d hd => ?_) (by omega) h'
    · rw [getD_set_ne false (show i ≠ j by omega)]; exact hnot j hj
    · by_cases e : i = j
      · subst e; exact getD_set_true (hdeps d hd)
      · rw [getD_set_ne false e] at hj; exact getD_set_true (hcl j hj d hd)
def prefB (lo n : Nat) : Array Bool := (List.replicate lo true ++ List.replicate (n - lo) false).toArray
def freeB (ops : List Oper) (hi : Nat) (l : Array Bool) (k : Nat) : Bool := Region.noSelect ops.toArray && Region.free .any ops.toArray l k && (Region.ready .any ops.toArray l).contains k && decide (k < hi)
def onlyB (ops : List Oper) (hi : Nat) (l : Array Bool) (k : Nat) : Bool := (Region.ready .any ops.toArray l).all (fun i => i == k || decide (hi ≤ i)) && (Region.ready .any ops.toArray l).contains k && decide (k < hi)
theorem Rest.phaseA {N : Nat} {r : Nat → Value} {w : World} (I : World → Prop) (lo hi m : Nat) (hm : lo + m = hi) (hhi : decide (hi ≤ ops.length) = true) (hbar : barB ops hi = true)
    (h : anyI P ops hi (Rest P Q ops hi) I m (prefB lo ops.length) (Go.Q.fr N r) w) : Rest P Q ops lo (Go.Q.fr N r) w := by
  intro hok fuel listed hsz hall hnot hf
  have hhi := of_decide_eq_true hhi
  have e : listed = prefB lo ops.length := by
    unfold prefB
    apply Array.ext
    · simp [hsz]; omega
    · intro i h1 h2
      rcases Nat.lt_or_ge i lo with g | g
      · have := hall i g
        simp [h1] at this
        rw [this]; simp [List.getElem_append, g]
      · have := hnot i g
        simp [h1] at this
        rw [this]; simp [List.getElem_append, Nat.not_lt.2 g]
  subst e
  refine anyI_wp hok hbar hhi m fuel _ _ w hsz (fun i hi' => hnot i (by omega)) (fun i hi' d hd => ?_) (by omega) h
  have hil : i < lo := by
    rcases Nat.lt_or_ge i lo with g | g
    · exact g
    · rw [hnot i g] at hi'; cases hi'
  have := (flowOk3_spec hok (List.getElem?_eq_getElem (show i < ops.length by omega))).1 d hd
  exact hall d (by omega)
section
variable {hi : Nat} {K : Act → World → Prop} {I : World → Prop} {N n : Nat} {l : Array Bool} {r : Nat → Value} {w : World}
theorem a_done {a : Act} (h : allB hi l = true) (hI : I w) (hk : K a w) : anyI P ops hi K I 0 l a w := ⟨hI, h, hk⟩
theorem freeB_spec {k : Nat} (h : freeB ops hi l k = true) : Region.noSelect ops.toArray = true ∧ Region.free .any ops.toArray l k = true ∧ k ∈ Region.ready .any ops.toArray l ∧ k < hi := by
  unfold freeB at h
  simp only [Bool.and_eq_true, decide_eq_true_eq, List.contains_iff_mem] at h
  exact ⟨h.1.1.1, h.1.1.2, h.1.2, h.2⟩
theorem onlyB_spec {k : Nat} (h : onlyB ops hi l k = true) : (∀ i ∈ Region.ready .any ops.toArray l, i < hi → i = k) ∧ k ∈ Region.ready .any ops.toArray l ∧ k < hi := by
  unfold onlyB at h
  simp only [Bool.and_eq_true, decide_eq_true_eq, List.contains_iff_mem, List.all_eq_true, Bool.or_eq_true, beq_iff_eq] at h
  exact ⟨fun i hi' hlt => (h.1.1 i hi').elim id fun g => by omega, h.1.2, h.2⟩
theorem a_first {k : Nat} {o : Oper} {v : Value} {a : Act} (ho : ops[k]? = some o) (hf : freeB ops hi l k = true) (hy : YI P ops o v a I) (h : anyI P ops hi K I n (l.setIfInBounds k true) (a.put o.dst v) w) : anyI P ops hi K I (n + 1) l a w := by
  obtain ⟨h1, h2, h3, h4⟩ := freeB_spec hf
  have ho' : ops.toArray[k]? = some o := by simpa using ho
  exact anyI_first ho h4 (fun j o cs b hj => Region.noSelect_spec h1 j o cs b (by simpa using hj)) n l a w (fun j oj hj => Region.free_spec ho' h2 j oj (by simpa using hj)) h3 hy h
theorem a_op {d : Nat} {op : Op} {T : TypeId} {pos : String} {after : Array Edge} {v : Value} (k : Nat) (ho : ops[k]? = some ⟨some d, op, T, pos, after, none⟩) (hf : freeB ops hi l k = true)
    (hv : ∀ w', I w' → OK P ⟨some d, op, T, pos, after, none⟩ (ev N r) w' fun v' w'' => v' = v ∧ w'' = w') (h : anyI P ops hi K I n (l.setIfInBounds k true) (Go.Q.fr N (upd r d v)) w) : anyI P ops hi K I (n + 1) l (Go.Q.fr N r) w := by
  refine a_first ho hf (.inl ⟨by simp [Region.wanted], fun w' hI => ?_⟩) (v := v) (by rw [fr_put]; exact h)
  rw [fr_eval]; exact hv w' hI
theorem a_on {d : Nat} {op : Op} {T : TypeId} {pos : String} {after : Array Edge} {g : Nat} {b : Bool} {v : Value} (k : Nat) (ho : ops[k]? = some ⟨some d, op, T, pos, after, some (g, b)⟩) (hf : freeB ops hi l k = true) (t : Nat) (hgt : dstOf ops g = some t) (hg : ev N r (.tmp t) = .bool b)
    (hv : ∀ w', I w' → OK P ⟨some d, op, T, pos, after, some (g, b)⟩ (ev N r) w' fun v' w'' => v' = v ∧ w'' = w') (h : anyI P ops hi K I n (l.setIfInBounds k true) (Go.Q.fr N (upd r d v)) w) : anyI P ops hi K I (n + 1) l (Go.Q.fr N r) w := by
  refine a_first ho hf (.inl ⟨?_, fun w' hI => ?_⟩) (v := v) (by rw [fr_put]; exact h)
  · obtain ⟨og, h1, h2⟩ := dstOf_spec ops g hgt
    rw [wanted_fr h1 h2 hg]; simp
  · rw [fr_eval]; exact hv w' hI
theorem a_off {d : Nat} {op : Op} {T : TypeId} {pos : String} {after : Array Edge} {g : Nat} {b b' : Bool} (k : Nat) (ho : ops[k]? = some ⟨some d, op, T, pos, after, some (g, b)⟩) (hf : freeB ops hi l k = true) (t : Nat) (hgt : dstOf ops g = some t) (hg : ev N r (.tmp t) = .bool b') (hne : (b' == b) = false)
    (h : anyI P ops hi K I n (l.setIfInBounds k true) (Go.Q.fr N (upd r d undef)) w) : anyI P ops hi K I (n + 1) l (Go.Q.fr N r) w := by
  refine a_first ho hf (.inr ⟨?_, rfl⟩) (by rw [fr_put]; exact h)
  obtain ⟨og, h1, h2⟩ := dstOf_spec ops g hgt
  rw [wanted_fr h1 h2 hg, hne]
theorem a_offu {d : Nat} {op : Op} {T : TypeId} {pos : String} {after : Array Edge} {g : Nat} {b : Bool} (k : Nat) (ho : ops[k]? = some ⟨some d, op, T, pos, after, some (g, b)⟩) (hf : freeB ops hi l k = true) (t : Nat) (hgt : dstOf ops g = some t) (hg : ev N r (.tmp t) = undef)
    (h : anyI P ops hi K I n (l.setIfInBounds k true) (Go.Q.fr N (upd r d undef)) w) : anyI P ops hi K I (n + 1) l (Go.Q.fr N r) w := by
  refine a_first ho hf (.inr ⟨?_, rfl⟩) (by rw [fr_put]; exact h)
  obtain ⟨og, h1, h2⟩ := dstOf_spec ops g hgt
  have hy : yielded ops.toArray (Go.Q.fr N r).tmps g = none := by
    simp only [yielded, show ops.toArray[g]? = some og by simpa using h1, h2, Option.bind_some, fr_at]
    by_cases h : t < N
    · have hb : Nat.blt t N = true := by simpa using h
      simp only [ev, hb] at hg
      have hv' : r t = undef := hg
      rw [if_pos h, hv']; rfl
    · rw [if_neg h]
  simp [Region.wanted, hy]
theorem a_only {k : Nat} {o : Oper} {a : Act} (ho : ops[k]? = some o) (hr : onlyB ops hi l k = true) (hI : I w) (h : okOp P ops k (anyI P ops hi K I n (l.setIfInBounds k true)) a w) : anyI P ops hi K I (n + 1) l a w := by
  obtain ⟨h1, h2, h3⟩ := onlyB_spec hr
  exact ⟨hI, allB_un (ready_un h2).1 h3, fun i hi' hlt => by rw [h1 i hi' hlt]; exact h⟩
theorem a_w {d : Nat} {op : Op} {T : TypeId} {pos : String} {after : Array Edge} (k : Nat) (ho : ops[k]? = some ⟨some d, op, T, pos, after, none⟩) (hr : onlyB ops hi l k = true) (hI : I w)
    (h : OK P ⟨some d, op, T, pos, after, none⟩ (ev N r) w fun v w' => anyI P ops hi K I n (l.setIfInBounds k true) (Go.Q.fr N (upd r d v)) w') : anyI P ops hi K I (n + 1) l (Go.Q.fr N r) w := by
  refine a_only ho hr hI ⟨_, ho, .inl ⟨by simp [Region.wanted], ?_⟩⟩
  rw [fr_eval]; exact h.mono fun v w' hh => by rw [fr_put]; exact hh
theorem a_we {op : Op} {T : TypeId} {pos : String} {after : Array Edge} (k : Nat) (ho : ops[k]? = some ⟨none, op, T, pos, after, none⟩) (hr : onlyB ops hi l k = true) (hI : I w)
    (h : OK P ⟨none, op, T, pos, after, none⟩ (ev N r) w fun _ w' => anyI P ops hi K I n (l.setIfInBounds k true) (Go.Q.fr N r) w') : anyI P ops hi K I (n + 1) l (Go.Q.fr N r) w := by
  refine a_only ho hr hI ⟨_, ho, .inl ⟨by simp [Region.wanted], ?_⟩⟩
  rw [fr_eval]; exact h
theorem a_won {d : Nat} {op : Op} {T : TypeId} {pos : String} {after : Array Edge} {g : Nat} {b : Bool} (k : Nat) (ho : ops[k]? = some ⟨some d, op, T, pos, after, some (g, b)⟩) (hr : onlyB ops hi l k = true) (hI : I w) (t : Nat) (hgt : dstOf ops g = some t) (hg : ev N r (.tmp t) = .bool b)
    (h : OK P ⟨some d, op, T, pos, after, some (g, b)⟩ (ev N r) w fun v w' => anyI P ops hi K I n (l.setIfInBounds k true) (Go.Q.fr N (upd r d v)) w') : anyI P ops hi K I (n + 1) l (Go.Q.fr N r) w := by
  refine a_only ho hr hI ⟨_, ho, .inl ⟨?_, ?_⟩⟩
  · obtain ⟨og, h1, h2⟩ := dstOf_spec ops g hgt
    rw [wanted_fr h1 h2 hg]; simp
  · rw [fr_eval]; exact h.mono fun v w' hh => by rw [fr_put]; exact hh
def twoB (ops : List Oper) (hi : Nat) (l : Array Bool) (k k2 : Nat) : Bool := (Region.ready .any ops.toArray l).all (fun i => i == k || i == k2 || decide (hi ≤ i)) && (Region.ready .any ops.toArray l).contains k && decide (k < hi)
/-- Two that change the world are ready: whichever comes first. -/
theorem a_two {a : Act} (k k2 : Nat) (hr : twoB ops hi l k k2 = true) (hI : I w) (h1 : okOp P ops k (anyI P ops hi K I n (l.setIfInBounds k true)) a w) (h2 : okOp P ops k2 (anyI P ops hi K I n (l.setIfInBounds k2 true)) a w) : anyI P ops hi K I (n + 1) l a w := by
  unfold twoB at hr
  simp only [Bool.and_eq_true, decide_eq_true_eq, List.contains_iff_mem, List.all_eq_true, Bool.or_eq_true, beq_iff_eq] at hr
  refine ⟨hI, allB_un (ready_un hr.1.2).1 hr.2, fun i hi' hlt => ?_⟩
  rcases hr.1.1 i hi' with (e | e) | e
  · rw [e]; exact h1
  · rw [e]; exact h2
  · omega
theorem ok_w {K : Act → World → Prop} {d : Nat} {op : Op} {T : TypeId} {pos : String} {after : Array Edge} (k : Nat) (ho : ops[k]? = some ⟨some d, op, T, pos, after, none⟩)
    (h : OK P ⟨some d, op, T, pos, after, none⟩ (ev N r) w fun v w' => K (Go.Q.fr N (upd r d v)) w') : okOp P ops k K (Go.Q.fr N r) w := by
  refine ⟨_, ho, .inl ⟨by simp [Region.wanted], ?_⟩⟩
  rw [fr_eval]; exact h.mono fun v w' hh => by rw [fr_put]; exact hh
theorem ok_we {K : Act → World → Prop} {op : Op} {T : TypeId} {pos : String} {after : Array Edge} (k : Nat) (ho : ops[k]? = some ⟨none, op, T, pos, after, none⟩)
    (h : OK P ⟨none, op, T, pos, after, none⟩ (ev N r) w fun _ w' => K (Go.Q.fr N r) w') : okOp P ops k K (Go.Q.fr N r) w := by
  refine ⟨_, ho, .inl ⟨by simp [Region.wanted], ?_⟩⟩
  rw [fr_eval]; exact h
theorem ok_won {K : Act → World → Prop} {d : Nat} {op : Op} {T : TypeId} {pos : String} {after : Array Edge} {g : Nat} {b : Bool} (k : Nat) (ho : ops[k]? = some ⟨some d, op, T, pos, after, some (g, b)⟩) (t : Nat) (hgt : dstOf ops g = some t) (hg : ev N r (.tmp t) = .bool b)
    (h : OK P ⟨some d, op, T, pos, after, some (g, b)⟩ (ev N r) w fun v w' => K (Go.Q.fr N (upd r d v)) w') : okOp P ops k K (Go.Q.fr N r) w := by
  refine ⟨_, ho, .inl ⟨?_, ?_⟩⟩
  · obtain ⟨og, h1, h2⟩ := dstOf_spec ops g hgt
    rw [wanted_fr h1 h2 hg]; simp
  · rw [fr_eval]; exact h.mono fun v w' hh => by rw [fr_put]; exact hh
end
/-- An element's address, told once. -/
theorem ix_ex1 {α : Type} {f : α → Value} {ls : List α} {a : α} {t e : TypeId} {L : List Hp} {by_ : Nat} {v z : Value} {i : Int} (ht : P.underlying t = some (.slice e)) (hi : TI P e z 1 by_)
    (hs : Sl L 1 v ls.length (ls.map f)) (h0 : 0 ≤ i) (ha : ls[i.toNat]? = some a) : ∃ b off, CellsAt L b off [f a] ∧ ∀ {ρ : Operand → Value} {dst : Option Tmp} {T : TypeId} {pos : String} {after : Array Edge} {g : Option (Nat × Bool)} {x y : Operand} {k : IntKind} {w : World} {K : Value → World → Prop},
      ρ x = v → ρ y = .int k i → K (.pointer (some ⟨b, off, none⟩)) w → OK P ⟨dst, .indexAddr t x y, T, pos, after, g⟩ ρ w K := by
  have hi' : i.toNat < ls.length := (List.getElem?_eq_some_iff.1 ha).1
  obtain ⟨p, cap, rfl, hnc, hcm, hl, hp⟩ := hs
  obtain ⟨b, off, rfl, hc⟩ := hp (by omega)
  have hc' : CellsAt L b (off + i.toNat * 1) (((ls.map f).drop (i.toNat * 1)).take 1) := hc.sub fun j v hv => by
    rw [List.getElem?_take] at hv
    split at hv
    · rw [List.getElem?_drop] at hv; exact hv
    · cases hv
  rw [drop_take_map f ls i.toNat hi', show ls[i.toNat] = a from (List.getElem?_eq_some_iff.1 ha).2] at hc'
  refine ⟨b, _, hc', fun hx hy hK => OK.val (run_v ?_) hK⟩
  rw [hx, hy]
  simp [Instr.indexAt, asIntOf, run_underlying ht, h0, show i < ls.length by omega, hi.size, add_lit]
theorem ix_exF {α : Type} {f : α → List Value} {sz : Nat} (hf : ∀ a, (f a).length = sz) {ls : List α} {a : α} {t e : TypeId} {L : List Hp} {by_ : Nat} {v z : Value} {i : Int} (ht : P.underlying t = some (.slice e)) (hi : TI P e z sz by_)
    (hs : Sl L sz v ls.length (ls.flatMap f)) (h0 : 0 ≤ i) (ha : ls[i.toNat]? = some a) : ∃ b off, CellsAt L b off (f a) ∧ ∀ {ρ : Operand → Value} {dst : Option Tmp} {T : TypeId} {pos : String} {after : Array Edge} {g : Option (Nat × Bool)} {x y : Operand} {k : IntKind} {w : World} {K : Value → World → Prop},
      ρ x = v → ρ y = .int k i → K (.pointer (some ⟨b, off, none⟩)) w → OK P ⟨dst, .indexAddr t x y, T, pos, after, g⟩ ρ w K := by
  have hi' : i.toNat < ls.length := (List.getElem?_eq_some_iff.1 ha).1
  obtain ⟨p, cap, rfl, hnc, hcm, hl, hp⟩ := hs
  obtain ⟨b, off, rfl, hc⟩ := hp (by omega)
  have hc' : CellsAt L b (off + i.toNat * sz) (((ls.flatMap f).drop (i.toNat * sz)).take sz) := hc.sub fun j v hv => by
    rw [List.getElem?_take] at hv
    split at hv
    · rw [List.getElem?_drop] at hv; exact hv
    · cases hv
  rw [flat_part hf ls i.toNat a ha] at hc'
  refine ⟨b, _, hc', fun hx hy hK => OK.val (run_v ?_) hK⟩
  rw [hx, hy]
  simp [Instr.indexAt, asIntOf, run_underlying ht, h0, show i < ls.length by omega, hi.size, add_lit]
theorem o_makeFuncF {ρ : Operand → Value} {w : World} {K : Value → World → Prop} {dst : Option Tmp} {T : TypeId} {pos : String} {after : Array Edge} {g : Option (Nat × Bool)} {f : FuncId} {cs bs : Array Operand} {us vs : Array Value} (hu : bs.map ρ = us) (hv : cs.map ρ = vs)
    (hK : K (.func (.func f) us vs) w) : OK P ⟨dst, .makeFunc (.func f) bs cs, T, pos, after, g⟩ ρ w K := by
  refine OK.val (w' := w) ?_ hK
  subst hv hu; simp [execOp, Instr.makeFunc]
theorem cap0 {ρ : Operand → Value} : (#[] : Array Operand).map ρ = #[] := by simp
end
end Go.Q
namespace Go.Q
section
variable {P : Program} {ops : List Oper} {Q : Exit → Act → World → Prop}
/-- All that a done one waits for is done. -/
def Cl (ops : List Oper) (l : Array Bool) : Prop := ∀ i, l.getD i false = true → ∀ d ∈ depsOf ops i, l.getD d false = true
def anyE (P : Program) (ops : List Oper) (hi : Nat) (K : Act → World → Prop) (I : Array Bool → World → Prop) : Nat → Array Bool → Act → World → Prop
  | 0, l, a, w => I l w ∧ allB hi l = true ∧ K a w
  | n + 1, l, a, w => I l w ∧ allB hi l = false ∧ ∀ i ∈ Region.ready .any ops.toArray l, i < hi → okOp P ops i (anyE P ops hi K I n (l.setIfInBounds i true)) a w
theorem anyE.inv {hi : Nat} {K : Act → World → Prop} {I : Array Bool → World → Prop} : ∀ {n : Nat} {l : Array Bool} {a : Act} {w : World}, anyE P ops hi K I n l a w → I l w
  | 0, _, _, _, h => h.1
  | _ + 1, _, _, _, h => h.1
theorem Cl.set {l : Array Bool} (h : Cl ops l) {j : Nat} (hj : j ∈ Region.ready .any ops.toArray l) : Cl ops (l.setIfInBounds j true) := by
  intro i hi d hd
  by_cases e : j = i
  · subst e
    obtain ⟨_, o, ho, hdone⟩ := mem_ready.1 hj
    have ho' : ops[j]? = some o := by simpa using ho
    unfold depsOf at hd
    rw [ho'] at hd
    obtain ⟨e, he, heq⟩ := List.mem_filterMap.1 hd
    split at heq
    · cases heq; exact getD_set_true (hdone e (by simpa using he) (by assumption))
    · cases heq
  · rw [getD_set_ne false (show j ≠ i from e)] at hi; exact getD_set_true (h i hi d hd)
theorem anyE_first {hi i : Nat} {oi : Oper} {v : Value} {K : Act → World → Prop} {I : Array Bool → World → Prop} (hIm : ∀ l w, l.getD i false = false → I (l.setIfInBounds i true) w → I l w) (hoi : ops[i]? = some oi) (hlt : i < hi)
    (hsel : ∀ (j : Nat) (o : Oper) cs b, ops[j]? = some o → o.op ≠ .select cs b) :
    ∀ (n : Nat) (l : Array Bool) (a : Act) (w : World), Cl ops l →
      (∀ j oj, ops[j]? = some oj → j ≠ i → l.getD j true = false → (∀ e ∈ oj.after, Region.binds .any e = true → e.on ≠ i) → oi.apart ops.toArray oj = true) →
      i ∈ Region.ready .any ops.toArray l → YI P ops oi v a (fun w => ∃ l', Cl ops l' ∧ l'.getD i false = false ∧ I l' w) → anyE P ops hi K I n (l.setIfInBounds i true) (a.put oi.dst v) w → anyE P ops hi K I (n + 1) l a w := by
  intro n
  induction n with
  | zero =>
    intro l a w hcl _ hr hy H
    have hu := ready_un hr
    have hI := hIm l w hu.1 H.inv
    refine ⟨hI, allB_un hu.1 hlt, fun j hj hjh => ?_⟩
    by_cases hji : j = i
    · subst hji; exact hy.ok hoi ⟨l, hcl, hu.1, hI⟩ H
    · have h2 := ready_un (ready_mono hj hji)
      have := allB_un h2.1 hjh
      rw [H.2.1] at this; cases this
  | succ n ih =>
    intro l a w hcl hfree hr hy H
    have hu := ready_un hr
    have hI := hIm l w hu.1 H.inv
    refine ⟨hI, allB_un hu.1 hlt, fun j hj hjh => ?_⟩
    by_cases hji : j = i
    · subst hji; exact hy.ok hoi ⟨l, hcl, hu.1, hI⟩ H
    · have h1 := H.2.2 j (ready_mono hj hji) hjh
      obtain ⟨hjun, oj, hoj, hall⟩ := mem_ready.1 hj
      have hoj' : ops[j]? = some oj := by simpa using hoj
      have hnot : ∀ e ∈ oj.after, Region.binds .any e = true → e.on ≠ i := fun e he hb heq => by
        have h1 := hall e he hb
        rw [heq, hu.1] at h1; cases h1
      have h2 := okOp_put hoj' (hfree j oj hoj' hji hjun hnot) (fun cs b => hsel i oi cs b hoi) (fun cs b => hsel j oj cs b hoj') hy h1
      have hfree' : ∀ k ok, ops[k]? = some ok → k ≠ i → (l.setIfInBounds j true).getD k true = false → (∀ e ∈ ok.after, Region.binds .any e = true → e.on ≠ i) → oi.apart ops.toArray ok = true := fun k ok hk hki hun hno => by
        refine hfree k ok hk hki ?_ hno
        by_cases hjk : j = k
        · subst hjk; exact hjun
        · rw [getD_set_ne true hjk] at hun; exact hun
      refine h2.mono fun a' w' h3 => ih (l.setIfInBounds j true) a' w' (hcl.set hj) hfree' (ready_mono hr (Ne.symm hji)) h3.1 ?_
      rw [Array.setIfInBounds_comm _ _ hji]
      exact h3.2
theorem anyE_wp {hi : Nat} {I : Array Bool → World → Prop} (hok : flowOk3 ops = true) (hbar : barB ops hi = true) (hhi : hi ≤ ops.length) : ∀ (n fuel : Nat) (l : Array Bool) (a : Act) (w : World), l.size = ops.length → (∀ i, hi ≤ i → l.getD i false = false) →
    Cl ops l → n + (ops.length - hi) ≤ fuel → anyE P ops hi (Rest P Q ops hi) I n l a w → wpAny P .any ops.toArray Q fuel l a w
  | 0, fuel, l, a, w, hsz, hnot, _, hf, h => by
    refine h.2.2 hok fuel l hsz (fun i hi' => ?_) hnot (by omega)
    have := h.2.1
    unfold allB at this
    rw [List.all_eq_true] at this
    exact this i (List.mem_range.2 hi')
  | n + 1, fuel, l, a, w, hsz, hnot, hcl, hf, h => by
    obtain ⟨f, rfl⟩ : ∃ f, fuel = f + 1 := ⟨fuel - 1, by omega⟩
    obtain ⟨_, hall, hr⟩ := h
    obtain ⟨m, hm, hum, hmin⟩ : ∃ m, m < hi ∧ l.getD m false = false ∧ ∀ j, j < m → l.getD j false = true := by
      unfold allB at hall
      rw [List.all_eq_false] at hall
      obtain ⟨x, hx, hxu⟩ := hall
      have hx' : x < hi := List.mem_range.1 hx
      have hxu' : l.getD x false = false := by simpa using hxu
      clear hxu hx
      induction x using Nat.strongRecOn with
      | ind x ih =>
        by_cases g : ∃ j, j < x ∧ l.getD j false = false
        · obtain ⟨j, hj, hju⟩ := g; exact ih j hj (by omega) hju
        · exact ⟨x, hx', hxu', fun j hj => by
            cases e : l.getD j false with
            | true => rfl
            | false => exact absurd ⟨j, hj, e⟩ g⟩
    have hml : m < ops.length := by omega
    have hmr : m ∈ Region.ready .any ops.toArray l := by
      refine mem_ready.2 ⟨?_, ops[m], by simp [hml], fun e he hb => ?_⟩
      · have hs : m < l.size := by omega
        simp [hs] at hum ⊢; exact hum
      · have hd := mem_depsOf (List.getElem?_eq_getElem hml) he hb
        exact hmin _ ((flowOk3_spec hok (List.getElem?_eq_getElem hml)).1 _ hd)
    refine ⟨fun g => (by rw [g] at hmr; cases hmr), fun i hi' => ?_⟩
    obtain ⟨hiu, his⟩ := ready_un hi'
    obtain ⟨_, o, ho, hdone⟩ := mem_ready.1 hi'
    have ho' : ops[i]? = some o := by simpa using ho
    have hdeps : ∀ d ∈ depsOf ops i, l.getD d false = true := by
      intro d hd
      unfold depsOf at hd
      rw [ho'] at hd
      obtain ⟨e, he, heq⟩ := List.mem_filterMap.1 hd
      split at heq
      · cases heq; exact hdone e (by simpa using he) (by assumption)
      · cases heq
    have hih : i < hi := by
      rcases Nat.lt_or_ge i hi with g | g
      · exact g
      · have := anc_trans3 hok hcl _ i m (barB_spec hbar i m g (by omega) hm) hdeps
        rw [hum] at this; cases this
    refine wpOp_mono ?_ (hr i hi' hih).wp
    intro a' w' h'
    exact anyE_wp hok hbar hhi n f _ a' w' (by simpa using hsz) (fun j hj => by rw [getD_set_ne false (show i ≠ j by omega)]; exact hnot j hj) (hcl.set hi') (by omega) h'
/-- Up to k1, the first that changes the world, F lies there; G lies there all the way. -/
def I2 (E : World) (k1 : Nat) (F G : List (List Hp)) (l : Array Bool) (w : World) : Prop := (l.getD k1 false = false → Has E w F) ∧ Has E w G
theorem Rest.phaseE {N : Nat} {r : Nat → Value} {w : World} (I : Array Bool → World → Prop) (lo hi m : Nat) (hm : lo + m = hi) (hhi : decide (hi ≤ ops.length) = true) (hbar : barB ops hi = true)
    (h : Cl ops (prefB lo ops.length) → anyE P ops hi (Rest P Q ops hi) I m (prefB lo ops.length) (Go.Q.fr N r) w) : Rest P Q ops lo (Go.Q.fr N r) w := by
  intro hok fuel listed hsz hall hnot hf
  have hhi := of_decide_eq_true hhi
  have e : listed = prefB lo ops.length := by
    unfold prefB
    apply Array.ext
    · simp [hsz]; omega
    · intro i h1 h2
      rcases Nat.lt_or_ge i lo with g | g
      · have := hall i g
        simp [h1] at this
        rw [this]; simp [List.getElem_append, g]
      · have := hnot i g
        simp [h1] at this
        rw [this]; simp [List.getElem_append, Nat.not_lt.2 g]
  subst e
  have hcl : Cl ops (prefB lo ops.length) := fun i hi' d hd => by
    have hil : i < lo := by
      rcases Nat.lt_or_ge i lo with g | g
      · exact g
      · rw [hnot i g] at hi'; cases hi'
    have := (flowOk3_spec hok (List.getElem?_eq_getElem (show i < ops.length by omega))).1 d hd
    exact hall d (by omega)
  exact anyE_wp hok hbar hhi m fuel _ _ w hsz (fun i hi' => hnot i (by omega)) hcl (by omega) (h hcl)
section
variable {hi k1 : Nat} {K : Act → World → Prop} {E : World} {F G : List (List Hp)} {N n : Nat} {l : Array Bool} {r : Nat → Value} {w : World}
theorem I2.early {k : Nat} (hok : flowOk3 ops = true) (h : anc ops ops.length k1 k = true) : ∀ w, (∃ l', Cl ops l' ∧ l'.getD k false = false ∧ I2 E k1 F G l' w) → Has E w F := by
  rintro w ⟨l', hcl, hk, hI⟩
  refine hI.1 ?_
  cases e : l'.getD k1 false with
  | false => rfl
  | true => rw [anc_trans3 hok hcl _ k1 k h (hcl k1 e)] at hk; cases hk
theorem I2.late {k : Nat} : ∀ w, (∃ l', Cl ops l' ∧ l'.getD k false = false ∧ I2 E k1 F G l' w) → Has E w G := fun _ ⟨_, _, _, h⟩ => h.2
theorem I2.mk1 (hF : Has E w F) (hG : Has E w G) : I2 E k1 F G l w := ⟨fun _ => hF, hG⟩
theorem I2.mk2 (h : l.getD k1 false = true) (hG : Has E w G) : I2 E k1 F G l w := ⟨fun g => absurd (h.symm.trans g) (by decide), hG⟩
theorem e_done {a : Act} (h : allB hi l = true) (hI : I2 E k1 F G l w) (hk : K a w) : anyE P ops hi K (I2 E k1 F G) 0 l a w := ⟨hI, h, hk⟩
theorem e_first {k : Nat} {o : Oper} {v : Value} {a : Act} {J : World → Prop} (hcl : Cl ops l) (hne : (k == k1) = false) (ho : ops[k]? = some o) (hf : freeB ops hi l k = true) (hJ : ∀ w, (∃ l', Cl ops l' ∧ l'.getD k false = false ∧ I2 E k1 F G l' w) → J w) (hy : YI P ops o v a J)
    (h : Cl ops (l.setIfInBounds k true) → anyE P ops hi K (I2 E k1 F G) n (l.setIfInBounds k true) (a.put o.dst v) w) : anyE P ops hi K (I2 E k1 F G) (n + 1) l a w := by
  obtain ⟨h1, h2, h3, h4⟩ := freeB_spec hf
  have ho' : ops.toArray[k]? = some o := by simpa using ho
  have hne' : k ≠ k1 := by simpa using hne
  refine anyE_first (fun l w _ hI => ⟨fun g => hI.1 (by rw [getD_set_ne false hne']; exact g), hI.2⟩) ho h4 (fun j o cs b hj => Region.noSelect_spec h1 j o cs b (by simpa using hj)) n l a w hcl (fun j oj hj => Region.free_spec ho' h2 j oj (by simpa using hj)) h3 ?_ (h (hcl.set h3))
  exact hy.imp (fun g => ⟨g.1, fun w hw => g.2 w (hJ w hw)⟩) id
theorem e_op {d : Nat} {op : Op} {T : TypeId} {pos : String} {after : Array Edge} {v : Value} {J : World → Prop} (k : Nat) (hcl : Cl ops l) (hne : (k == k1) = false) (ho : ops[k]? = some ⟨some d, op, T, pos, after, none⟩) (hf : freeB ops hi l k = true) (hJ : ∀ w, (∃ l', Cl ops l' ∧ l'.getD k false = false ∧ I2 E k1 F G l' w) → J w)
    (hv : ∀ w', J w' → OK P ⟨some d, op, T, pos, after, none⟩ (ev N r) w' fun v' w'' => v' = v ∧ w'' = w') (h : Cl ops (l.setIfInBounds k true) → anyE P ops hi K (I2 E k1 F G) n (l.setIfInBounds k true) (Go.Q.fr N (upd r d v)) w) : anyE P ops hi K (I2 E k1 F G) (n + 1) l (Go.Q.fr N r) w := by
  refine e_first hcl hne ho hf hJ (.inl ⟨by simp [Region.wanted], fun w' hI => ?_⟩) (v := v) (by rw [fr_put]; exact h)
  rw [fr_eval]; exact hv w' hI
theorem e_on {d : Nat} {op : Op} {T : TypeId} {pos : String} {after : Array Edge} {g : Nat} {b : Bool} {v : Value} {J : World → Prop} (k : Nat) (hcl : Cl ops l) (hne : (k == k1) = false) (ho : ops[k]? = some ⟨some d, op, T, pos, after, some (g, b)⟩) (hf : freeB ops hi l k = true) (hJ : ∀ w, (∃ l', Cl ops l' ∧ l'.getD k false = false ∧ I2 E k1 F G l' w) → J w) (t : Nat) (hgt : dstOf ops g = some t) (hg : ev N r (.tmp t) = .bool b)
    (hv : ∀ w', J w' → OK P ⟨some d, op, T, pos, after, some (g, b)⟩ (ev N r) w' fun v' w'' => v' = v ∧ w'' = w') (h : Cl ops (l.setIfInBounds k true) → anyE P ops hi K (I2 E k1 F G) n (l.setIfInBounds k true) (Go.Q.fr N (upd r d v)) w) : anyE P ops hi K (I2 E k1 F G) (n + 1) l (Go.Q.fr N r) w := by
  refine e_first hcl hne ho hf hJ (.inl ⟨?_, fun w' hI => ?_⟩) (v := v) (by rw [fr_put]; exact h)
  · obtain ⟨og, h1, h2⟩ := dstOf_spec ops g hgt
    rw [wanted_fr h1 h2 hg]; simp
  · rw [fr_eval]; exact hv w' hI
theorem e_off {d : Nat} {op : Op} {T : TypeId} {pos : String} {after : Array Edge} {g : Nat} {b b' : Bool} (k : Nat) (hcl : Cl ops l) (hne : (k == k1) = false) (ho : ops[k]? = some ⟨some d, op, T, pos, after, some (g, b)⟩) (hf : freeB ops hi l k = true) (t : Nat) (hgt : dstOf ops g = some t) (hg : ev N r (.tmp t) = .bool b') (hb : (b' == b) = false)
    (h : Cl ops (l.setIfInBounds k true) → anyE P ops hi K (I2 E k1 F G) n (l.setIfInBounds k true) (Go.Q.fr N (upd r d undef)) w) : anyE P ops hi K (I2 E k1 F G) (n + 1) l (Go.Q.fr N r) w := by
  refine e_first hcl hne ho hf (J := fun _ => True) (fun _ _ => trivial) (.inr ⟨?_, rfl⟩) (by rw [fr_put]; exact h)
  obtain ⟨og, h1, h2⟩ := dstOf_spec ops g hgt
  rw [wanted_fr h1 h2 hg, hb]
theorem e_only {k : Nat} {o : Oper} {a : Act} (hcl : Cl ops l) (ho : ops[k]? = some o) (hr : onlyB ops hi l k = true) (hI : I2 E k1 F G l w) (h : Cl ops (l.setIfInBounds k true) → okOp P ops k (anyE P ops hi K (I2 E k1 F G) n (l.setIfInBounds k true)) a w) : anyE P ops hi K (I2 E k1 F G) (n + 1) l a w := by
  obtain ⟨h1, h2, h3⟩ := onlyB_spec hr
  exact ⟨hI, allB_un (ready_un h2).1 h3, fun i hi' hlt => by rw [h1 i hi' hlt]; exact h (hcl.set h2)⟩
theorem e_w {d : Nat} {op : Op} {T : TypeId} {pos : String} {after : Array Edge} (k : Nat) (hcl : Cl ops l) (ho : ops[k]? = some ⟨some d, op, T, pos, after, none⟩) (hr : onlyB ops hi l k = true) (hI : I2 E k1 F G l w)
    (h : Cl ops (l.setIfInBounds k true) → OK P ⟨some d, op, T, pos, after, none⟩ (ev N r) w fun v w' => anyE P ops hi K (I2 E k1 F G) n (l.setIfInBounds k true) (Go.Q.fr N (upd r d v)) w') : anyE P ops hi K (I2 E k1 F G) (n + 1) l (Go.Q.fr N r) w := by
  refine e_only hcl ho hr hI fun hc => ⟨_, ho, .inl ⟨by simp [Region.wanted], ?_⟩⟩
  rw [fr_eval]; exact (h hc).mono fun v w' hh => by rw [fr_put]; exact hh
theorem e_we {op : Op} {T : TypeId} {pos : String} {after : Array Edge} (k : Nat) (hcl : Cl ops l) (ho : ops[k]? = some ⟨none, op, T, pos, after, none⟩) (hr : onlyB ops hi l k = true) (hI : I2 E k1 F G l w)
    (h : Cl ops (l.setIfInBounds k true) → OK P ⟨none, op, T, pos, after, none⟩ (ev N r) w fun _ w' => anyE P ops hi K (I2 E k1 F G) n (l.setIfInBounds k true) (Go.Q.fr N r) w') : anyE P ops hi K (I2 E k1 F G) (n + 1) l (Go.Q.fr N r) w := by
  refine e_only hcl ho hr hI fun hc => ⟨_, ho, .inl ⟨by simp [Region.wanted], ?_⟩⟩
  rw [fr_eval]; exact h hc
theorem e_won {d : Nat} {op : Op} {T : TypeId} {pos : String} {after : Array Edge} {g : Nat} {b : Bool} (k : Nat) (hcl : Cl ops l) (ho : ops[k]? = some ⟨some d, op, T, pos, after, some (g, b)⟩) (hr : onlyB ops hi l k = true) (hI : I2 E k1 F G l w) (t : Nat) (hgt : dstOf ops g = some t) (hg : ev N r (.tmp t) = .bool b)
    (h : Cl ops (l.setIfInBounds k true) → OK P ⟨some d, op, T, pos, after, some (g, b)⟩ (ev N r) w fun v w' => anyE P ops hi K (I2 E k1 F G) n (l.setIfInBounds k true) (Go.Q.fr N (upd r d v)) w') : anyE P ops hi K (I2 E k1 F G) (n + 1) l (Go.Q.fr N r) w := by
  refine e_only hcl ho hr hI fun hc => ⟨_, ho, .inl ⟨?_, ?_⟩⟩
  · obtain ⟨og, h1, h2⟩ := dstOf_spec ops g hgt
    rw [wanted_fr h1 h2 hg]; simp
  · rw [fr_eval]; exact (h hc).mono fun v w' hh => by rw [fr_put]; exact hh
end
end
end Go.Q
namespace Go.Q
open Go.Proofs
set_option linter.unusedVariables false
set_option maxRecDepth 100000
attribute [local irreducible] wpList OK Code.wp
theorem own_raw {e : TypeId} {n : Nat} {v : Value} {cs : List Value} {hs : List Hp} (h : Own e 1 v n cs hs) (hn : 0 < n) : ∃ b cap cur, v = .slice (some ⟨b, 0, none⟩) n cap ∧ hs = [Hp.one b (.cells cur e (0, 0))] ∧ n ≤ cap ∧ cap ≤ maxLen ∧ cur.size = cap := by
  obtain ⟨_, ⟨_, h, _⟩ | ⟨b, cap, cur, h1, h2, h3, h4, h5, _⟩⟩ := h
  · omega
  · exact ⟨b, cap, cur, h1, h2, h3, h4, by omega⟩
theorem rep_step {c c' : Array Value} {k N : Nat} {x : Value} (hk : 1 ≤ k) (hN : k ≤ N) (hs : N ≤ c.size) (h : c.toList.take k = List.replicate k x) (q : c'.toList = if 0 < min k (N - k) then c.toList.take (0 + k) ++ ((c.toList.drop 0).take (k * 1)).take (min k (N - k) * 1) ++ c.toList.drop (0 + k + min k (N - k) * 1) else c.toList) :
    c'.toList.take (k + min k (N - k)) = List.replicate (k + min k (N - k)) x := by
  by_cases g : 0 < min k (N - k)
  · rw [if_pos g, Nat.zero_add, List.drop_zero, Nat.mul_one, Nat.mul_one, h, List.take_replicate, List.replicate_append_replicate] at q
    rw [q, List.take_append_of_le_length (by rw [List.length_replicate]; omega), List.take_replicate]
    congr 1; omega
  · rw [if_neg g] at q
    have : min k (N - k) = 0 := by omega
    rw [q, this, Nat.add_zero]; exact h
theorem rep_step2 {c c' : Array Value} {k N o n so m : Nat} {x : Value} (hk : 1 ≤ k) (hN : k ≤ N) (hs : N ≤ c.size) (h : c.toList.take k = List.replicate k x)
    (q : c'.toList = if 0 < min m n then c.toList.take o ++ ((c.toList.drop so).take (m * 1)).take (min m n * 1) ++ c.toList.drop (o + min m n * 1) else c.toList) (hn : n = N - k) (hm : m = k) (hso : so = 0) (ho : 0 < n → o = k) :
    c'.toList.take (k + min k (N - k)) = List.replicate (k + min k (N - k)) x := by
  subst hn hm hso
  refine rep_step hk hN hs h ?_
  rw [q]
  by_cases g : 0 < min m (N - m)
  · rw [if_pos g, if_pos g, ho (by omega), Nat.zero_add]
  · rw [if_neg g, if_neg g]
theorem rep_one {c : Array Value} {k so m : Nat} {x u : Value} (h : c.toList.take k = List.replicate k x) (hu : u ∈ (c.toList.drop so).take (m * 1)) (hso : so = 0) (hm : m = k) (hx : x.oneCell' = true) : u.oneCell' = true := by
  subst hso hm
  rw [List.drop_zero, Nat.mul_one, h] at hu
  rw [(List.mem_replicate.1 hu).2]; exact hx
set_option maxHeartbeats 4000000 in
theorem srepeat_c {E w : World} {R : List Hp} (hH : Has E w [R]) {v : Value} {s : Bs} (hv : Sl R 1 v 1 ([s].map sV)) {n : Nat} (hn : 0 < n ∧ n ≤ 1000000) :
    Calls Tryz.prog 40 #[v, (.int .i64 (n : Int))] w fun e w' => ∃ v' hs', e = .returned v' ∧ Own 9 1 v' (List.replicate n s).length ((List.replicate n s).map sV) hs' ∧ Has E w' [hs', R] := by
  refine c_enter (args := [v, (.int .i64 (n : Int))]) Tryz.func40 rfl Tryz.ntmps40 (by simp) ?_
  refine wp_seq_k fun K1 hK1 => ?_
  refine c_region ?_
  refine s_op (o_assign (v := (.slice none 0 0)) rfl ?_)
  refine s_nil ?_
  refine t_norm (hK1 _ _ ?_)
  refine wp_seq_k fun K2 hK2 => ?_
  refine wp_seq_k fun K3 hK3 => ?_
  refine c_region ?_
  refine s_op (o_move (v := (.int .i64 (n : Int))) rfl ?_)
  refine s_op (o_lss (a := (n : Int)) (b := 0) rfl rfl ?_)
  refine s_nil ?_
  refine t_norm (hK3 _ _ ?_)
  refine c_cond rfl (fun h4 => ?_) (fun h4 => ?_)
  · -- (n : Int) < 0
    exfalso; omega
  · -- not: (n : Int) < 0
    refine wp_skip ?_
    refine t_norm (hK2 _ _ ?_)
    refine wp_seq_k fun K5 hK5 => ?_
    refine c_region ?_
    refine s_op (o_move (v := v) rfl ?_)
    refine s_op (o_lenS Tryz.underlying79 rfl hv ?_)
    refine s_op (o_conv (c := ((1 : Nat) : Int)) Tryz.underlying3 Tryz.underlying36 rfl (wu64 (by omega) (by omega)) ?_)
    refine s_op (o_move (v := (.int .i64 (n : Int))) rfl ?_)
    refine s_op (o_conv (c := (n : Int)) Tryz.underlying3 Tryz.underlying36 rfl (wu64 (by omega) (by omega)) ?_)
    refine s_op (o_callf (vs := #[(.int .u64 ((1 : Nat) : Int)), (.int .u64 (n : Int))]) ca62 rfl (args2 rfl rfl) (mul_c hH.all 1 n (by omega) (by omega) (by omega)) ?_)
    rintro _ w8 ⟨rfl, hX6⟩
    refine ⟨_, rfl, ?_⟩
    have hH7 := hX6.of_all
    refine s_op (o_move (v := (.tuple #[(.int .u64 (0 : Int)), (.int .u64 ((1 * n : Nat) : Int))])) rfl ?_)
    refine s_op (o_extract (v := (.int .u64 (0 : Int))) rfl rfl ?_)
    refine s_op (o_extract (v := (.int .u64 ((1 * n : Nat) : Int))) rfl rfl ?_)
    refine s_op (o_assign (v := (.int .u64 (0 : Int))) rfl ?_)
    refine s_op (o_assign (v := (.int .u64 ((1 * n : Nat) : Int))) rfl ?_)
    refine s_nil ?_
    refine t_norm (hK5 _ _ ?_)
    refine wp_seq_k fun K9 hK9 => ?_
    refine wp_seq_k fun K10 hK10 => ?_
    refine c_region ?_
    refine s_op (o_move (v := (.int .u64 (0 : Int))) rfl ?_)
    refine s_op (o_gtr (a := (0 : Int)) (b := 0) rfl rfl ?_)
    refine s_op (o_move (v := (.bool (decide (0 < (0 : Int))))) rfl ?_)
    by_cases h11 : 0 < (0 : Int)
    · -- 0 < (0 : Int)
      exfalso; omega
    · -- not: 0 < (0 : Int)
      refine s_on 23 rfl (congrArg Value.bool (decide_eq_false h11)) (o_move (v := (.int .u64 ((1 * n : Nat) : Int))) rfl ?_)
      refine s_on 23 rfl (congrArg Value.bool (decide_eq_false h11)) (o_gtr (a := ((1 * n : Nat) : Int)) (b := 9223372036854775807) rfl rfl ?_)
      refine s_op (o_pick_f (u := (.bool (decide (9223372036854775807 < ((1 * n : Nat) : Int))))) ((rfl : _ = _).trans (congrArg Value.bool (decide_eq_false h11))) rfl ?_)
      refine s_nil ?_
      refine t_norm (hK10 _ _ ?_)
      refine c_cond rfl (fun h12 => ?_) (fun h12 => ?_)
      · -- 9223372036854775807 < ((1 * n : Nat) : Int)
        exfalso; omega
      · -- not: 9223372036854775807 < ((1 * n : Nat) : Int)
        refine wp_skip ?_
        refine t_norm (hK9 _ _ ?_)
        refine wp_seq_k fun K13 hK13 => ?_
        refine c_region ?_
        refine s_op (o_move (v := (.int .u64 ((1 * n : Nat) : Int))) rfl ?_)
        refine s_op (o_conv (c := ((1 * n : Nat) : Int)) Tryz.underlying36 Tryz.underlying3 rfl (w64 (by omega) (by omega)) ?_)
        refine s_op (o_make Tryz.underlying79 ti9 rfl rfl (by omega) (by omega) (by omega) (by omega) hH7 fun v14 s15 w17 ho16 hH18 => ?_)
        rw [show (((1 * n : Nat) : Int)).toNat = n from by omega] at ho16
        obtain ⟨nb, ncp, nc, rfl, rfl, hnc1, hnc2, hnc3⟩ := own_raw ho16 hn.1
        simp only [maxLen] at hnc2
        refine s_op (o_assign (v := (.slice (some ⟨nb, 0, none⟩) n ncp)) rfl ?_)
        refine s_nil ?_
        refine t_norm (hK13 _ _ ?_)
        refine wp_seq_k fun K19 hK19 => ?_
        refine c_region ?_
        refine s_op (o_move (v := (.slice (some ⟨nb, 0, none⟩) n ncp)) rfl ?_)
        refine s_op (o_move (v := v) rfl ?_)
        refine s_op (o_copy (ds := ([s].map sV)) Tryz.underlying79 ti9 rfl rfl hv hH18 (seg_sub 1 rfl) (by omega) (by intro u hu; first | (have := List.mem_of_mem_take hu; simp at this; rw [this]; rfl) | exact rep_one hcc (List.mem_of_mem_take hu) (by omega) (by omega) rfl) fun c20 w21 hz24 hc22 hH23 => ?_)
        refine s_op (o_assign (v := (.int .i64 ((min 1 n : Nat) : Int))) rfl ?_)
        refine s_nil ?_
        refine t_norm (hK19 _ _ ?_)
        refine wp_seq_k fun K25 hK25 => ?_
        refine wp_block ?_
        have hm1 : min 1 n = 1 := by omega
        rw [hm1] at hc22
        let I27 : Nat → (Nat → Value) → World → Prop := fun n__ r__ w__ => ∃ (k : Nat) (cc : Array Value), n__ = n - k ∧ Has E w__ [[Hp.one nb (.cells cc 9 (0, 0))], R] ∧ (1 ≤ k ∧ k ≤ n) ∧ (cc.size = ncp) ∧ (cc.toList.take k = List.replicate k (S s)) ∧ r__ 0 = v ∧ r__ 1 = (.int .i64 (n : Int)) ∧ r__ 4 = (.slice none 0 0) ∧ r__ 5 = (.int .u64 (0 : Int)) ∧ r__ 6 = (.int .u64 ((1 * n : Nat) : Int)) ∧ r__ 7 = (.slice (some ⟨nb, 0, none⟩) n ncp) ∧ r__ 8 = (.int .i64 (k : Int)) ∧ r__ 10 = (.bool (decide ((n : Int) < 0))) ∧ r__ 26 = (.bool (decide (9223372036854775807 < ((1 * n : Nat) : Int))))
        refine c_loop I27 _ ⟨1, c20, rfl, hH23, (by omega), (by omega), (by rw [hc22]; rfl), rfl, rfl, rfl, rfl, rfl, rfl, (by show Value.int .i64 ((min 1 n : Nat) : Int) = _; rw [hm1]), rfl, rfl⟩ ?_
        rintro n_ r30 w28 ⟨k, cc, rfl, hH29, hk, hcs, hcc, e26_0, e26_1, e26_4, e26_5, e26_6, e26_7, e26_8, e26_10, e26_26⟩
        refine wp_seq_k fun K31 hK31 => ?_
        refine wp_seq_k fun K32 hK32 => ?_
        refine c_region ?_
        refine s_op (o_move (v := (.int .i64 (k : Int))) e26_8 ?_)
        refine s_op (o_move (v := (.slice (some ⟨nb, 0, none⟩) n ncp)) e26_7 ?_)
        refine s_op (o_len Tryz.underlying79 rfl ?_)
        refine s_op (o_lss (a := (k : Int)) (b := (n : Int)) rfl rfl ?_)
        refine s_nil ?_
        refine t_norm (hK32 _ _ ?_)
        refine c_cond rfl (fun h33 => ?_) (fun h33 => ?_)
        · -- (k : Int) < (n : Int)
          refine wp_skip ?_
          refine t_norm (hK31 _ _ ?_)
          refine wp_block ?_
          refine Rest.region mixed (by kernel_rfl) ?_
          have hH34 : Has E { w28 with drawn := w28.drawn + 1 } [[Hp.one nb (.cells cc 9 (0, 0))], R] := Has0.drew hH29 _
          refine Rest.phaseA (fun w_ => Has E w_ []) 0 8 8 rfl (by decide) (by kernel_rfl) ?_
          refine a_op 0 rfl (by kernel_rfl) (fun w_ h_ => o_move (v := (.int .i64 (k : Int))) e26_8 ⟨rfl, rfl⟩) ?_
          refine a_op 1 rfl (by kernel_rfl) (fun w_ h_ => o_move (v := (.slice (some ⟨nb, 0, none⟩) n ncp)) e26_7 ⟨rfl, rfl⟩) ?_
          refine a_op 2 rfl (by kernel_rfl) (fun w_ h_ => o_move (v := (.int .i64 (k : Int))) e26_8 ⟨rfl, rfl⟩) ?_
          refine a_op 4 rfl (by kernel_rfl) (fun w_ h_ => o_move (v := (.slice (some ⟨nb, 0, none⟩) n ncp)) e26_7 ⟨rfl, rfl⟩) ?_
          refine a_op 5 rfl (by kernel_rfl) (fun w_ h_ => o_move (v := (.int .i64 (k : Int))) e26_8 ⟨rfl, rfl⟩) ?_
          have hH35 : Has E { w28 with drawn := w28.drawn + 1 } [] := hH34.first 0 rfl
          refine a_two 3 6 (by kernel_rfl) hH35 ?_ ?_
          · -- first operation 3
            have hH36 : Has E { w28 with drawn := w28.drawn + 1 } [] := hH34.first 0 rfl
            obtain ⟨o37, n38, c39, ho43, hn40, hc41, hq42⟩ := rsl_ex 0 1 (i := (k : Int)) (j := ((n : Nat) : Int)) (m := ((ncp : Nat) : Int)) (by omega) (by omega) (by omega)
            refine ok_w 3 rfl (o_rsl2 (i := (k : Int)) (j := ((n : Nat) : Int)) (m := ((ncp : Nat) : Int)) Tryz.underlying79 ti9 rfl (bounds_l (n := n) (cap := ncp) (i := (k : Int)) (by omega) (by omega)) (by omega) (by omega) (by omega) ho43 hn40 hc41 ?_)
            have hH44 : Has E { w28 with drawn := w28.drawn + 1 } [] := hH34.first 0 rfl
            obtain ⟨o45, n46, c47, ho51, hn48, hc49, hq50⟩ := rsl_ex 0 1 (i := 0) (j := (k : Int)) (m := ((ncp : Nat) : Int)) (by omega) (by omega) (by omega)
            refine a_w 6 rfl (by kernel_rfl) hH44 (o_rsl2 (i := 0) (j := (k : Int)) (m := ((ncp : Nat) : Int)) Tryz.underlying79 ti9 rfl (bounds_h (n := n) (cap := ncp) (j := (k : Int)) (by omega) (by omega)) (by omega) (by omega) (by omega) ho51 hn48 hc49 ?_)
            have hH52 : Has E { w28 with drawn := w28.drawn + 1 } [] := hH34.first 0 rfl
            refine a_w 7 rfl (by kernel_rfl) hH52 (o_copy (ds := (cc.toList.drop o45).take (n46 * 1)) Tryz.underlying79 ti9 rfl rfl (sl_raw (b := nb) (o := o45) (sz := 1) (n := n46) (cap := c47) (c := cc) (e := 9) (g := (0, 0)) (by omega) (by omega) (by omega)) hH34 sub_l (by omega) (by intro u hu; first | (have := List.mem_of_mem_take hu; simp at this; rw [this]; rfl) | exact rep_one hcc (List.mem_of_mem_take hu) (by omega) (by omega) rfl) fun c53 w54 hz57 hc55 hH56 => ?_)
            have hH58 : Has E w54 [] := hH56.first 0 rfl
            refine a_done (by kernel_rfl) hH58 ?_
            refine r_op 8 rfl (by kernel_rfl) (o_add (a := (k : Int)) (b := ((min n46 n38 : Nat) : Int)) rfl rfl (w64 (by omega) (by omega)) ?_)
            refine r_op 9 rfl (by kernel_rfl) (o_assign (v := (.int .i64 ((k : Int) + ((min n46 n38 : Nat) : Int)))) rfl ?_)
            refine Rest.done (by kernel_rfl) ?_
            refine b_norm ?_
            have rstep := rep_step2 hk.1 hk.2 (by omega) hcc hc55 (by omega) (by omega) (by omega) (by omega)
            refine t_norm ⟨n - (k + min k (n - k)), _, rfl, ?_, ?_⟩
            · omega
            · exact ⟨(k + min k (n - k)), c53, rfl, hH56, (by omega), (by rw [hz57]; exact hcs), (rstep), e26_0, e26_1, e26_4, e26_5, e26_6, e26_7, (show ((.int .i64 ((k : Int) + ((min n46 n38 : Nat) : Int))) : Value) = _ from by congr 1; omega), e26_10, e26_26⟩
          · -- first operation 6
            have hH59 : Has E { w28 with drawn := w28.drawn + 1 } [] := hH34.first 0 rfl
            obtain ⟨o60, n61, c62, ho66, hn63, hc64, hq65⟩ := rsl_ex 0 1 (i := 0) (j := (k : Int)) (m := ((ncp : Nat) : Int)) (by omega) (by omega) (by omega)
            refine ok_w 6 rfl (o_rsl2 (i := 0) (j := (k : Int)) (m := ((ncp : Nat) : Int)) Tryz.underlying79 ti9 rfl (bounds_h (n := n) (cap := ncp) (j := (k : Int)) (by omega) (by omega)) (by omega) (by omega) (by omega) ho66 hn63 hc64 ?_)
            have hH67 : Has E { w28 with drawn := w28.drawn + 1 } [] := hH34.first 0 rfl
            obtain ⟨o68, n69, c70, ho74, hn71, hc72, hq73⟩ := rsl_ex 0 1 (i := (k : Int)) (j := ((n : Nat) : Int)) (m := ((ncp : Nat) : Int)) (by omega) (by omega) (by omega)
            refine a_w 3 rfl (by kernel_rfl) hH67 (o_rsl2 (i := (k : Int)) (j := ((n : Nat) : Int)) (m := ((ncp : Nat) : Int)) Tryz.underlying79 ti9 rfl (bounds_l (n := n) (cap := ncp) (i := (k : Int)) (by omega) (by omega)) (by omega) (by omega) (by omega) ho74 hn71 hc72 ?_)
            have hH75 : Has E { w28 with drawn := w28.drawn + 1 } [] := hH34.first 0 rfl
            refine a_w 7 rfl (by kernel_rfl) hH75 (o_copy (ds := (cc.toList.drop o60).take (n61 * 1)) Tryz.underlying79 ti9 rfl rfl (sl_raw (b := nb) (o := o60) (sz := 1) (n := n61) (cap := c62) (c := cc) (e := 9) (g := (0, 0)) (by omega) (by omega) (by omega)) hH34 sub_l (by omega) (by intro u hu; first | (have := List.mem_of_mem_take hu; simp at this; rw [this]; rfl) | exact rep_one hcc (List.mem_of_mem_take hu) (by omega) (by omega) rfl) fun c76 w77 hz80 hc78 hH79 => ?_)
            have hH81 : Has E w77 [] := hH79.first 0 rfl
            refine a_done (by kernel_rfl) hH81 ?_
            refine r_op 8 rfl (by kernel_rfl) (o_add (a := (k : Int)) (b := ((min n61 n69 : Nat) : Int)) rfl rfl (w64 (by omega) (by omega)) ?_)
            refine r_op 9 rfl (by kernel_rfl) (o_assign (v := (.int .i64 ((k : Int) + ((min n61 n69 : Nat) : Int)))) rfl ?_)
            refine Rest.done (by kernel_rfl) ?_
            refine b_norm ?_
            have rstep := rep_step2 hk.1 hk.2 (by omega) hcc hc78 (by omega) (by omega) (by omega) (by omega)
            refine t_norm ⟨n - (k + min k (n - k)), _, rfl, ?_, ?_⟩
            · omega
            · exact ⟨(k + min k (n - k)), c76, rfl, hH79, (by omega), (by rw [hz80]; exact hcs), (rstep), e26_0, e26_1, e26_4, e26_5, e26_6, e26_7, (show ((.int .i64 ((k : Int) + ((min n61 n69 : Nat) : Int))) : Value) = _ from by congr 1; omega), e26_10, e26_26⟩
        · -- not: (k : Int) < (n : Int)
          refine wp_exit ?_
          refine t_exit (t_exit (x_in (?_)))
          refine t_norm (hK25 _ _ ?_)
          refine wp_seq_k fun K82 hK82 => ?_
          refine c_region ?_
          refine s_op (o_move (v := (.slice (some ⟨nb, 0, none⟩) n ncp)) e26_7 ?_)
          refine s_op (o_assign (v := (.slice (some ⟨nb, 0, none⟩) n ncp)) rfl ?_)
          refine s_nil ?_
          refine t_norm (hK82 _ _ ?_)
          refine wp_ret ?_
          refine c_ret1 Tryz.results40  (v := (.slice (some ⟨nb, 0, none⟩) n ncp)) rfl ?_
          have e_ : k = n := by omega
          subst e_
          exact ⟨_, _, rfl, ⟨by simp, .inr ⟨nb, ncp, cc, by rw [List.length_replicate], rfl, by rw [List.length_replicate]; omega, by simp only [maxLen]; omega, by omega, by rw [List.length_replicate, Nat.mul_one, hcc, List.map_replicate]; rfl⟩⟩, hH29⟩
end Go.Q
namespace Go.Q
open Go.Proofs Go.Shelf
def kyl_ren : Go.Shelf.Ren := ⟨fun | 7 => 90 | 10 => 98 | n => n, fun | 23 => 82 | 26 => 3 | 3 => 9 | 28 => 135 | 0 => 0 | 27 => 134 | 33 => 60 | 4 => 4 | n => n, fun | n => n⟩
theorem kyl : Go.Proofs.SlLaysZI.n7 Tryz.prog kyl_ren := {
  mixed := by kernel_rfl
  f7 := ⟨Tryz.f90.name, by decide, Tryz.func90.trans (congrArg some (by kernel_rfl))⟩
  f10 := ⟨Tryz.f98.name, by decide, Tryz.func98.trans (congrArg some (by kernel_rfl))⟩
  t0 := Tryz.underlying0
  a0 := Tryz.isAgg0
  z0 := Tryz.sizeOf0
  v0 := Tryz.zeroValue0
  t4 := Tryz.underlying4
  a4 := Tryz.isAgg4
  z4 := Tryz.sizeOf4
  v4 := Tryz.zeroValue4
  t23 := Tryz.underlying82
  a23 := Tryz.isAgg82
  z23 := Tryz.sizeOf82
  v23 := Tryz.zeroValue82
  t26 := Tryz.underlying3
  a26 := Tryz.isAgg3
  z26 := Tryz.sizeOf3
  v26 := Tryz.zeroValue3
  t27 := Tryz.underlying134
  a27 := Tryz.isAgg134
  z27 := Tryz.sizeOf134
  v27 := Tryz.zeroValue134
  t28 := Tryz.underlying135
  a28 := Tryz.isAgg135
  z28 := Tryz.sizeOf135
  v28 := Tryz.zeroValue135
  t33 := Tryz.underlying60
  a33 := Tryz.isAgg60
  z33 := Tryz.sizeOf60
  v33 := Tryz.zeroValue60 }
def stl_ren : Go.Shelf.Ren := ⟨fun | 6 => 89 | 8 => 96 | 9 => 97 | 11 => 103 | 13 => 105 | 12 => 104 | 23 => 116 | 24 => 117 | 14 => 107 | 15 => 108 | 16 => 109 | 17 => 110 | 18 => 111 | 19 => 112 | 20 => 113 | 21 => 114 | 22 => 115 | 25 => 119 | 26 => 120 | 27 => 121 | 28 => 122 | 29 => 123 | 30 => 124 | 31 => 125 | n => n, fun | 26 => 3 | 28 => 135 | 24 => 46 | 0 => 0 | 3 => 3 | 37 => 36 | 48 => 100 | 50 => 125 | 4 => 4 | 40 => 155 | 39 => 154 | 45 => 71 | 5 => 5 | 9 => 9 | 51 => 162 | 55 => 67 | 57 => 167 | 58 => 168 | 33 => 60 | n => n, fun | n => n⟩
theorem stl : Go.Proofs.SlLaysZI.n6 Tryz.prog stl_ren := {
  mixed := by kernel_rfl
  f6 := ⟨Tryz.f89.name, by decide, Tryz.func89.trans (congrArg some (by kernel_rfl))⟩
  f8 := ⟨Tryz.f96.name, by decide, Tryz.func96.trans (congrArg some (by kernel_rfl))⟩
  f11 := ⟨Tryz.f103.name, by decide, Tryz.func103.trans (congrArg some (by kernel_rfl))⟩
  t0 := Tryz.underlying0
  a0 := Tryz.isAgg0
  z0 := Tryz.sizeOf0
  v0 := Tryz.zeroValue0
  t24 := Tryz.underlying46
  a24 := Tryz.isAgg46
  z24 := Tryz.sizeOf46
  v24 := Tryz.zeroValue46
  t26 := Tryz.underlying3
  a26 := Tryz.isAgg3
  z26 := Tryz.sizeOf3
  v26 := Tryz.zeroValue3
  t28 := Tryz.underlying135
  a28 := Tryz.isAgg135
  z28 := Tryz.sizeOf135
  v28 := Tryz.zeroValue135
  i26 := by kernel_rfl }
def srl_ren : Go.Shelf.Ren := ⟨fun | 5 => 97 | 8 => 105 | 7 => 104 | 19 => 116 | 20 => 117 | 10 => 107 | 11 => 108 | 12 => 109 | 13 => 110 | 14 => 111 | 15 => 112 | 16 => 113 | 17 => 114 | 18 => 115 | 30 => 119 | 31 => 120 | 32 => 121 | 33 => 122 | 34 => 123 | 35 => 124 | 40 => 125 | n => n, fun | 23 => 46 | 25 => 3 | 3 => 3 | 32 => 36 | 22 => 46 | 0 => 0 | 44 => 100 | 46 => 125 | 4 => 4 | 36 => 155 | 35 => 154 | 41 => 71 | 5 => 5 | 9 => 9 | 53 => 162 | 57 => 67 | 63 => 167 | 64 => 168 | n => n, fun | n => n⟩
theorem srl : Go.Proofs.SlLaysM.n5 Tryz.prog srl_ren := {
  mixed := by kernel_rfl
  f5 := ⟨Tryz.f97.name, by decide, Tryz.func97.trans (congrArg some (by kernel_rfl))⟩
  f7 := ⟨Tryz.f104.name, by decide, Tryz.func104.trans (congrArg some (by kernel_rfl))⟩
  f8 := Tryz.func105.trans (congrArg some (by kernel_rfl))
  f10 := ⟨Tryz.f107.name, by decide, Tryz.func107.trans (congrArg some (by kernel_rfl))⟩
  f11 := ⟨Tryz.f108.name, by decide, Tryz.func108.trans (congrArg some (by kernel_rfl))⟩
  f12 := ⟨Tryz.f109.name, by decide, Tryz.func109.trans (congrArg some (by kernel_rfl))⟩
  f13 := ⟨Tryz.f110.name, by decide, Tryz.func110.trans (congrArg some (by kernel_rfl))⟩
  f14 := ⟨Tryz.f111.name, by decide, Tryz.func111.trans (congrArg some (by kernel_rfl))⟩
  f15 := ⟨Tryz.f112.name, by decide, Tryz.func112.trans (congrArg some (by kernel_rfl))⟩
  f16 := ⟨Tryz.f113.name, by decide, Tryz.func113.trans (congrArg some (by kernel_rfl))⟩
  f17 := ⟨Tryz.f114.name, by decide, Tryz.func114.trans (congrArg some (by kernel_rfl))⟩
  f18 := ⟨Tryz.f115.name, by decide, Tryz.func115.trans (congrArg some (by kernel_rfl))⟩
  f19 := Tryz.func116.trans (congrArg some (by kernel_rfl))
  f20 := Tryz.func117.trans (congrArg some (by kernel_rfl))
  f30 := ⟨Tryz.f119.name, by decide, Tryz.func119.trans (congrArg some (by kernel_rfl))⟩
  f31 := Tryz.func120.trans (congrArg some (by kernel_rfl))
  f32 := Tryz.func121.trans (congrArg some (by kernel_rfl))
  f33 := ⟨Tryz.f122.name, by decide, Tryz.func122.trans (congrArg some (by kernel_rfl))⟩
  f34 := ⟨Tryz.f123.name, by decide, Tryz.func123.trans (congrArg some (by kernel_rfl))⟩
  f35 := ⟨Tryz.f124.name, by decide, Tryz.func124.trans (congrArg some (by kernel_rfl))⟩
  f40 := ⟨Tryz.f125.name, by decide, Tryz.func125.trans (congrArg some (by kernel_rfl))⟩
  t0 := Tryz.underlying0
  a0 := Tryz.isAgg0
  z0 := Tryz.sizeOf0
  v0 := Tryz.zeroValue0
  t3 := Tryz.underlying3
  a3 := Tryz.isAgg3
  z3 := Tryz.sizeOf3
  v3 := Tryz.zeroValue3
  t4 := Tryz.underlying4
  a4 := Tryz.isAgg4
  z4 := Tryz.sizeOf4
  v4 := Tryz.zeroValue4
  t5 := Tryz.underlying5
  a5 := Tryz.isAgg5
  z5 := Tryz.sizeOf5
  v5 := Tryz.zeroValue5
  t9 := Tryz.underlying9
  a9 := Tryz.isAgg9
  z9 := Tryz.sizeOf9
  v9 := Tryz.zeroValue9
  t22 := Tryz.underlying46
  a22 := Tryz.isAgg46
  z22 := Tryz.sizeOf46
  v22 := Tryz.zeroValue46
  t23 := Tryz.underlying46
  a23 := Tryz.isAgg46
  z23 := Tryz.sizeOf46
  v23 := Tryz.zeroValue46
  t25 := Tryz.underlying3
  a25 := Tryz.isAgg3
  z25 := Tryz.sizeOf3
  v25 := Tryz.zeroValue3
  t32 := Tryz.underlying36
  a32 := Tryz.isAgg36
  z32 := Tryz.sizeOf36
  v32 := Tryz.zeroValue36
  t35 := Tryz.underlying154
  a35 := Tryz.isAgg154
  z35 := Tryz.sizeOf154
  v35 := Tryz.zeroValue154
  t36 := Tryz.underlying155
  a36 := Tryz.isAgg155
  z36 := Tryz.sizeOf155
  v36 := Tryz.zeroValue155
  t41 := Tryz.underlying71
  a41 := Tryz.isAgg71
  z41 := Tryz.sizeOf71
  v41 := Tryz.zeroValue71
  t44 := Tryz.underlying100
  a44 := Tryz.isAgg100
  z44 := Tryz.sizeOf100
  v44 := Tryz.zeroValue100
  t46 := Tryz.underlying125
  a46 := Tryz.isAgg125
  z46 := Tryz.sizeOf125
  v46 := Tryz.zeroValue125
  t53 := Tryz.underlying162
  a53 := Tryz.isAgg162
  z53 := Tryz.sizeOf162
  v53 := Tryz.zeroValue162
  t57 := Tryz.underlying67
  a57 := Tryz.isAgg67
  z57 := Tryz.sizeOf67
  v57 := Tryz.zeroValue67
  t63 := Tryz.underlying167
  a63 := Tryz.isAgg167
  z63 := Tryz.sizeOf167
  v63 := Tryz.zeroValue167
  t64 := Tryz.underlying168
  a64 := Tryz.isAgg168
  z64 := Tryz.sizeOf168
  v64 := Tryz.zeroValue168 }
theorem srl_in (m : Nat) : AnyZI.SortsIn Tryz.prog stl_ren Fence.wide m :=
  ⟨fun blk off cap ss W hH hblk hsz => callsIn_wide.2 (AnyM.slices_Sort_int srl blk off cap ss W hH hblk hsz),
   fun p cap W => callsIn_wide.2 (AnyM.slices_Sort_int_none srl p cap W)⟩
theorem Has.row {E w w' : World} {ss : List (List Hp)} (H : Has E w ss) (hb : Go.RowKit.Below w.heap.size w w') {e : TypeId} {sz n : Nat} {v : Value} {cs : List Value} (hr : w'.ownsRow w.heap.size e sz v n cs) : ∃ hs, Own e sz v n cs hs ∧ Has E w' (hs :: ss) := by
  have H' := H.of_below hb
  obtain ⟨hl, ⟨rfl, h0⟩ | ⟨k, cap, cur, rfl, hk, hbk, h1, h2, h3, h4⟩⟩ := hr
  · exact ⟨[], ⟨hl, .inl ⟨rfl, h0, rfl⟩⟩, Has.nil H'⟩
  · refine ⟨[Hp.one k (.cells cur e (0, 0))], ⟨hl, .inr ⟨k, cap, cur, rfl, rfl, h1, h2, h3, h4⟩⟩, ?_⟩
    refine ⟨H'.os, H'.tape, H'.output, ?_, ?_⟩
    · refine List.pairwise_cons.2 ⟨fun h hh j => ?_, H'.dj⟩
      cases hj : h j with
      | none => exact .inr rfl
      | some o =>
        refine .inl ?_
        have := (Array.getElem?_eq_some_iff.1 (Has0.sub H h hh j o hj)).1
        unfold Hp.one; rw [if_neg (by omega)]
    · intro h hh
      rcases List.mem_cons.1 hh with rfl | hh
      · intro j o hj
        obtain ⟨rfl, rfl⟩ := Hp.one_some hj
        exact hbk
      · exact Has0.sub H' h hh
theorem mkeys_c {E w : World} {ss : List Hp} (H : Has E w [ss]) (mb : Nat) : Calls Tryz.prog 90 #[.map (some mb)] w fun e w' => ∃ b, e = .returned (.func (.func 98) #[] #[.pointer (some ⟨b, 0, none⟩)]) ∧ Has E w' [[Hp.one b (.cells #[.map (some mb)] 82 (0, 0))], ss] := by
  refine (callsIn_wide.1 (AnyZI.keys_in kyl Fence.wide 5 trivial rfl (some mb) w)).mono fun e w' ⟨he, hw⟩ => ⟨w.heap.size, he, ?_⟩
  rw [hw]
  exact H.alloc _
set_option maxRecDepth 100000 in
theorem MapV.owns {f : Bs → Value} {es : Array MapEntry} {c : Nat} {lo : List (Int × Bs)} (h : MapV iV f es c lo) {w : World} {b : Nat} (hb : w.heap[b]? = some (.map es c)) {k : TypeId} (hk : Tryz.prog.underlying k = some (.int .i64))
    (hw : ∀ p ∈ lo, (Lit.int .i64 p.1).wf = true) (hn : lo.length ≤ 1000000) : ∃ D : DataW Nat, w.ownsMap Tryz.prog k (fun _ => some (.lit (.bool true), [])) b lo.length D ∧ Maps.size D = lo.length ∧ (intKeys D).Perm (lo.map (·.1)) := by
  have hkey : ∀ x ∈ es.toList, ∃ p ∈ lo, x.key = .int .i64 p.1 := fun x hx => by
    have : x.key ∈ es.toList.map (·.key) := List.mem_map.2 ⟨x, hx, rfl⟩
    rw [h.keys] at this
    obtain ⟨p, hp, e⟩ := List.mem_map.1 this
    exact ⟨p, hp, e.symm⟩
  have hrd : ∀ x ∈ es.toList, ∃ p ∈ lo, x.key = .int .i64 p.1 ∧ Go.WideElems.rd (H := Nat) Tryz.prog k (fun _ => some (.lit (.bool true), [])) x = some (.int .i64 p.1, .lit (.bool true)) := fun x hx => by
    obtain ⟨p, hp, e⟩ := hkey x hx
    refine ⟨p, hp, e, ?_⟩
    unfold Go.WideElems.rd
    rw [e, Go.Maps.keyOf_int_mk hk (hw p hp)]; rfl
  have hsz := h.size
  refine ⟨.map ((es.toList.map (Go.WideElems.rg Tryz.prog k (fun _ => some (.lit (.bool true), [])))).foldr DataW.insert []), ⟨es, c, hb, ⟨by rw [hsz]; simp only [maxLen]; omega, h.2, fun x hx => by obtain ⟨p, _, _, e⟩ := hrd x hx; exact ⟨_, e⟩⟩, by omega, rfl⟩, ?_, ?_⟩
  · show List.length _ = _
    rw [(Go.WideShapes.sorted_perm _).length_eq, List.length_map]; simpa using hsz
  · show (List.map (fun p : Lit × DataW Nat => intOf p.1) _).Perm _
    refine ((Go.WideShapes.sorted_perm _).map _).trans ?_
    rw [List.map_map]
    have e1 : es.toList.map ((fun p : Lit × DataW Nat => intOf p.1) ∘ Go.WideElems.rg Tryz.prog k (fun _ => some (.lit (.bool true), []))) = es.toList.map (fun x => match x.key with | .int _ a => a | _ => 0) := List.map_congr_left fun x hx => by
      obtain ⟨p, _, e, g⟩ := hrd x hx
      show intOf (Go.WideElems.rg _ _ _ x).1 = _
      unfold Go.WideElems.rg
      rw [g, e]; rfl
    have e2 : es.toList.map (fun x => match x.key with | .int _ a => a | _ => 0) = lo.map (·.1) := by
      have := congrArg (List.map (fun v : Value => match v with | .int _ a => a | _ => (0 : Int))) h.keys
      rw [List.map_map, List.map_map] at this
      exact this
    rw [e1, e2]
theorem skeys_c {E w : World} {R : List Hp} {b mb c : Nat} {es : Array MapEntry} {lo : List (Int × Bs)} {f : Bs → Value} (H : Has E w [[Hp.one b (.cells #[.map (some mb)] 82 (0, 0))], [Hp.one mb (.map es c)], R]) (hm : MapV iV f es c lo)
    (hw : ∀ p ∈ lo, (Lit.int .i64 p.1).wf = true) (hn : lo.length ≤ 1000000) :
    Calls Tryz.prog 89 #[.func (.func 98) #[] #[.pointer (some ⟨b, 0, none⟩)]] w fun e w' => ∃ v hs, e = .returned v ∧ Own 3 1 v (keysS lo).length ((keysS lo).map iV) hs ∧ Has E w' [hs, [Hp.one b (.cells #[.map (some mb)] 82 (0, 0))], [Hp.one mb (.map es c)], R] := by
  have hb1 : w.heap[b]? = some (.cells #[.map (some mb)] 82 (0, 0)) := H.at (h := Hp.one b (.cells #[.map (some mb)] 82 (0, 0))) (by simp) (Hp.one_at _ _)
  have hb2 : w.heap[mb]? = some (.map es c) := H.at (h := Hp.one mb (.map es c)) (by simp) (Hp.one_at _ _)
  obtain ⟨D, hown, hsz, hperm⟩ := hm.owns hb2 (k := 3) Tryz.underlying3 hw hn
  have hlt : b < w.heap.size := (Array.getElem?_eq_some_iff.1 hb1).1
  have hseq : SeqGives Fence.wide 2 Tryz.prog 98 #[.pointer (some ⟨b, 0, none⟩)] encZ (fun ss => ss.Perm (intKeys D)) (Maps.size D) w :=
    AnyZI.keys_gives (ρ := kyl_ren) { kyl with } Fence.wide _ trivial rfl (by omega) b mb lo.length D w hlt (by simp [World.cell?, hb1]) hown
  have hs := AnyZI.sorted_in stl Fence.wide 5 trivial trivial trivial trivial rfl (by omega) (srl_in _) (enters_of Tryz.func97 (by kernel_rfl) rfl) 98 #[.pointer (some ⟨b, 0, none⟩)] trivial (enters_of Tryz.func98 (by kernel_rfl) rfl) _ (Maps.size D) (by simp only [maxLen]; omega) (by omega) w hseq
  refine (callsIn_wide.1 hs).mono fun e w' ⟨v, ss, he, hp, hrow, _, hbl⟩ => ?_
  obtain ⟨hs', ho, hH⟩ := H.row hbl hrow
  have e1 : ss.mergeSort (fun x y => decide (x ≤ y)) = keysS lo := mergeSort_of_perm_i (hp.trans hperm)
  have hl : ss.length = (keysS lo).length := by rw [← e1, List.length_mergeSort]
  rw [e1, hl] at ho
  exact ⟨v, hs', he, ho, hH⟩
end Go.Q
namespace Go.Q
open Go.Proofs
set_option linter.unusedVariables false
set_option maxRecDepth 100000
attribute [local irreducible] wpList OK Code.wp
set_option maxHeartbeats 4000000 in
theorem pback_c {E w : World} {R : List Hp} {pb : Nat} {p : Pw} (hH : Has E w [[Hp.one pb (.cells #[(.bool p.off), (.bool p.armed), (.int .i64 p.left), (.int .i64 p.uses)] 78 (0, 0))], R]) :
    Calls Tryz.prog 53 #[(.pointer (some ⟨pb, 0, none⟩))] w fun e w' => e = .returned (.tuple #[]) ∧ Has E w' [[Hp.one pb (.cells #[(.bool (backS p).off), (.bool (backS p).armed), (.int .i64 (backS p).left), (.int .i64 (backS p).uses)] 78 (0, 0))], R] := by
  refine c_enter (args := [(.pointer (some ⟨pb, 0, none⟩))]) Tryz.func53 rfl Tryz.ntmps53 (by simp) ?_
  refine c_region ?_
  refine s_op (o_move (v := (.pointer (some ⟨pb, 0, none⟩))) rfl ?_)
  refine s_op (o_move (v := (.pointer (some ⟨pb, 0, none⟩))) rfl ?_)
  refine s_op (o_nilCheck rfl ?_)
  refine s_op (o_fieldAddr (k := 0) (fun _ => by kernel_rfl) rfl ?_)
  refine s_eff (o_store1 (c' := #[(.bool false), (.bool p.armed), (.int .i64 p.left), (.int .i64 p.uses)]) ti4 rfl rfl rfl (by simp) rfl (hH.front 0 rfl) fun w1 hH2 => ?_)
  refine s_op (o_nilCheck rfl ?_)
  refine s_op (o_fieldAddr (k := 1) (fun _ => by kernel_rfl) rfl ?_)
  refine s_eff (o_store1 (c' := #[(.bool false), (.bool false), (.int .i64 p.left), (.int .i64 p.uses)]) ti4 rfl rfl rfl (by simp) rfl (hH2.front 0 rfl) fun w3 hH4 => ?_)
  refine s_nil ?_
  refine c_end0 Tryz.results53  ?_
  exact ⟨rfl, hH4⟩
set_option maxHeartbeats 4000000 in
theorem parm_c {E w : World} {R : List Hp} {pb : Nat} {p : Pw} (hH : Has E w [[Hp.one pb (.cells #[(.bool p.off), (.bool p.armed), (.int .i64 p.left), (.int .i64 p.uses)] 78 (0, 0))], R]) (n : Int) :
    Calls Tryz.prog 52 #[(.pointer (some ⟨pb, 0, none⟩)), (.int .i64 n)] w fun e w' => e = .returned (.tuple #[]) ∧ Has E w' [[Hp.one pb (.cells #[(.bool (armS p n).off), (.bool (armS p n).armed), (.int .i64 (armS p n).left), (.int .i64 (armS p n).uses)] 78 (0, 0))], R] := by
  refine c_enter (args := [(.pointer (some ⟨pb, 0, none⟩)), (.int .i64 n)]) Tryz.func52 rfl Tryz.ntmps52 (by simp) ?_
  refine wp_seq_k fun K1 hK1 => ?_
  refine c_region ?_
  refine s_op (o_move (v := (.pointer (some ⟨pb, 0, none⟩))) rfl ?_)
  refine s_op (o_pnnil (p := some _) Tryz.underlying76 rfl rfl ?_)
  refine s_nil ?_
  refine t_norm (hK1 _ _ ?_)
  refine c_true rfl rfl ?_
  refine c_region ?_
  refine s_op (o_move (v := (.pointer (some ⟨pb, 0, none⟩))) rfl ?_)
  refine s_op (o_move (v := (.pointer (some ⟨pb, 0, none⟩))) rfl ?_)
  refine s_op (o_move (v := (.int .i64 n)) rfl ?_)
  refine s_op (o_max (a := n) (b := 0) rfl rfl ?_)
  refine s_op (o_nilCheck rfl ?_)
  refine s_op (o_fieldAddr (k := 1) (fun _ => by kernel_rfl) rfl ?_)
  refine s_eff (o_store1 (c' := #[(.bool p.off), (.bool true), (.int .i64 p.left), (.int .i64 p.uses)]) ti4 rfl rfl rfl (by simp) rfl (hH.front 0 rfl) fun w2 hH3 => ?_)
  refine s_op (o_nilCheck rfl ?_)
  refine s_op (o_fieldAddr (k := 2) (fun _ => by kernel_rfl) rfl ?_)
  refine s_eff (o_store1 (c' := #[(.bool p.off), (.bool true), (.int .i64 (max n 0)), (.int .i64 p.uses)]) ti3 rfl rfl rfl (by simp) rfl (hH3.front 0 rfl) fun w4 hH5 => ?_)
  refine s_nil ?_
  refine c_end0 Tryz.results52  ?_
  exact ⟨rfl, hH5⟩
set_option maxHeartbeats 4000000 in
theorem puses_c {E w : World} {R : List Hp} {pb : Nat} {p : Pw} (hH : Has E w [[Hp.one pb (.cells #[(.bool p.off), (.bool p.armed), (.int .i64 p.left), (.int .i64 p.uses)] 78 (0, 0))], R]) :
    Calls Tryz.prog 51 #[(.pointer (some ⟨pb, 0, none⟩))] w fun e w' => e = .returned (.int .i64 p.uses) ∧ Has E w' [[Hp.one pb (.cells #[(.bool p.off), (.bool p.armed), (.int .i64 p.left), (.int .i64 p.uses)] 78 (0, 0))], R] := by
  refine c_enter (args := [(.pointer (some ⟨pb, 0, none⟩))]) Tryz.func51 rfl Tryz.ntmps51 (by simp) ?_
  refine wp_seq_k fun K1 hK1 => ?_
  refine c_region ?_
  refine s_op (o_assign (v := (.int .i64 0)) rfl ?_)
  refine s_nil ?_
  refine t_norm (hK1 _ _ ?_)
  refine wp_seq_k fun K2 hK2 => ?_
  refine wp_seq_k fun K3 hK3 => ?_
  refine c_region ?_
  refine s_op (o_move (v := (.pointer (some ⟨pb, 0, none⟩))) rfl ?_)
  refine s_op (o_pnil (p := some _) Tryz.underlying76 rfl rfl ?_)
  refine s_nil ?_
  refine t_norm (hK3 _ _ ?_)
  refine c_false rfl rfl ?_
  refine wp_skip ?_
  refine t_norm (hK2 _ _ ?_)
  refine wp_seq_k fun K4 hK4 => ?_
  refine c_region ?_
  refine s_op (o_move (v := (.pointer (some ⟨pb, 0, none⟩))) rfl ?_)
  refine s_op (o_nilCheck rfl ?_)
  refine s_op (o_fieldAddr (k := 3) (fun _ => by kernel_rfl) rfl ?_)
  refine s_op (o_load1 (v := (.int .i64 p.uses)) Tryz.underlying3 rfl rfl hH (seg_sub 0 rfl) (CellsAt.one rfl) ?_)
  refine s_op (o_assign (v := (.int .i64 p.uses)) rfl ?_)
  refine s_nil ?_
  refine t_norm (hK4 _ _ ?_)
  refine wp_ret ?_
  refine c_ret1 Tryz.results51  (v := (.int .i64 p.uses)) rfl ?_
  exact ⟨rfl, hH⟩
end Go.Q
namespace Go.Q
open Go.Proofs
set_option linter.unusedVariables false
set_option maxRecDepth 100000
attribute [local irreducible] wpList OK Code.wp
theorem wf_of {n : Int} {k : Nat} (h : inS n k) (hk : k ≤ 4096) : (Lit.int .i64 n).wf = true := by
  unfold inS at h
  simp only [Lit.wf, IntKind.min, IntKind.max, IntKind.signed, IntKind.bits, Bool.and_eq_true, decide_eq_true_eq, if_true]
  omega
theorem lo_le {es : Array MapEntry} {c : Nat} {lo : List (Int × Bs)} {k : Nat} (hm : MapV iV sV es c lo) (h : LoOk lo k) (hk : k ≤ 4096) : lo.length ≤ 1000000 := by
  have := nodup_len (lo.map (·.1)) ((List.range k).map Int.ofNat) hm.nodup fun x hx => by
    obtain ⟨p, hp, rfl⟩ := List.mem_map.1 hx
    have := (h p hp).1
    unfold inS at this
    exact List.mem_map.2 ⟨p.1.toNat, List.mem_range.2 (by omega), by show ((p.1.toNat : Nat) : Int) = _; omega⟩
  rw [List.length_map, List.length_map, List.length_range] at this; omega
set_option maxHeartbeats 4000000 in
theorem sectors_i {E w : World} {R hL : List Hp} {pb db mb c : Nat} {p : Pw} {v : Value} {es : Array MapEntry} {la : List Bs} {lo : List (Int × Bs)} (hH : Has E w [hL, [Hp.one mb (.map es c)], [Hp.one db (.cells #[(.pointer (some ⟨pb, 0, none⟩)), v, (.map (some mb))] 84 (0, 0))], [Hp.one pb (.cells #[(.bool p.off), (.bool p.armed), (.int .i64 p.left), (.int .i64 p.uses)] 78 (0, 0))], R]) (ho : Own 9 1 v la.length (la.map sV) hL) (hm : MapV iV sV es c lo) :
    Calls Tryz.prog 68 #[(.pointer (some ⟨db, 0, none⟩))] w fun e w' => e = .returned (.int .i64 ((la.length : Nat) : Int)) ∧ Has E w' [hL, [Hp.one mb (.map es c)], [Hp.one db (.cells #[(.pointer (some ⟨pb, 0, none⟩)), v, (.map (some mb))] 84 (0, 0))], [Hp.one pb (.cells #[(.bool p.off), (.bool p.armed), (.int .i64 p.left), (.int .i64 p.uses)] 78 (0, 0))], R] := by
  refine c_enter (args := [(.pointer (some ⟨db, 0, none⟩))]) Tryz.func68 rfl Tryz.ntmps68 (by simp) ?_
  refine wp_seq_k fun K1 hK1 => ?_
  refine c_region ?_
  refine s_op (o_assign (v := (.int .i64 0)) rfl ?_)
  refine s_nil ?_
  refine t_norm (hK1 _ _ ?_)
  refine wp_seq_k fun K2 hK2 => ?_
  refine wp_seq_k fun K3 hK3 => ?_
  refine c_region ?_
  refine s_op (o_move (v := (.pointer (some ⟨db, 0, none⟩))) rfl ?_)
  refine s_op (o_pnil (p := some _) Tryz.underlying34 rfl rfl ?_)
  refine s_nil ?_
  refine t_norm (hK3 _ _ ?_)
  refine c_false rfl rfl ?_
  refine wp_skip ?_
  refine t_norm (hK2 _ _ ?_)
  refine wp_seq_k fun K4 hK4 => ?_
  refine c_region ?_
  refine s_op (o_move (v := (.pointer (some ⟨db, 0, none⟩))) rfl ?_)
  refine s_op (o_nilCheck rfl ?_)
  refine s_op (o_fieldAddr (k := 1) (fun _ => by kernel_rfl) rfl ?_)
  refine s_op (o_load1 (v := v) Tryz.underlying79 rfl rfl hH (seg_sub 2 rfl) (CellsAt.one rfl) ?_)
  refine s_op (o_lenS Tryz.underlying79 rfl ho.sl ?_)
  refine s_op (o_assign (v := (.int .i64 ((la.length : Nat) : Int))) rfl ?_)
  refine s_nil ?_
  refine t_norm (hK4 _ _ ?_)
  refine wp_ret ?_
  refine c_ret1 Tryz.results68  (v := (.int .i64 ((la.length : Nat) : Int))) rfl ?_
  exact ⟨rfl, hH⟩
set_option maxHeartbeats 4000000 in
theorem don_i {E w : World} {R hL : List Hp} {pb db mb c : Nat} {p : Pw} {v : Value} {es : Array MapEntry} {la : List Bs} {lo : List (Int × Bs)} (hH : Has E w [hL, [Hp.one mb (.map es c)], [Hp.one db (.cells #[(.pointer (some ⟨pb, 0, none⟩)), v, (.map (some mb))] 84 (0, 0))], [Hp.one pb (.cells #[(.bool p.off), (.bool p.armed), (.int .i64 p.left), (.int .i64 p.uses)] 78 (0, 0))], R]) (ho : Own 9 1 v la.length (la.map sV) hL) (hm : MapV iV sV es c lo) :
    Calls Tryz.prog 44 #[(.pointer (some ⟨db, 0, none⟩))] w fun e w' => e = .returned (.bool (!p.off)) ∧ Has E w' [hL, [Hp.one mb (.map es c)], [Hp.one db (.cells #[(.pointer (some ⟨pb, 0, none⟩)), v, (.map (some mb))] 84 (0, 0))], [Hp.one pb (.cells #[(.bool p.off), (.bool p.armed), (.int .i64 p.left), (.int .i64 p.uses)] 78 (0, 0))], R] := by
  refine c_enter (args := [(.pointer (some ⟨db, 0, none⟩))]) Tryz.func44 rfl Tryz.ntmps44 (by simp) ?_
  refine wp_seq_k fun K1 hK1 => ?_
  refine c_region ?_
  refine s_op (o_assign (v := (.bool false)) rfl ?_)
  refine s_nil ?_
  refine t_norm (hK1 _ _ ?_)
  refine wp_seq_k fun K2 hK2 => ?_
  refine c_region ?_
  refine s_op (o_move (v := (.pointer (some ⟨db, 0, none⟩))) rfl ?_)
  refine s_op (o_pnnil (p := some _) Tryz.underlying34 rfl rfl ?_)
  refine s_op (o_move (v := (.bool true)) rfl ?_)
  refine s_on 5 rfl rfl (o_move (v := (.pointer (some ⟨db, 0, none⟩))) rfl ?_)
  refine s_on 5 rfl rfl (o_nilCheck rfl ?_)
  refine s_on 5 rfl rfl (o_fieldAddr (k := 0) (fun _ => by kernel_rfl) rfl ?_)
  refine s_on 5 rfl rfl (o_load1 (v := (.pointer (some ⟨pb, 0, none⟩))) Tryz.underlying76 rfl rfl hH (seg_sub 2 rfl) (CellsAt.one rfl) ?_)
  refine s_on 5 rfl rfl (o_callf (vs := #[(.pointer (some ⟨pb, 0, none⟩))]) ca69 rfl (args1 rfl) (pon_c (p := p) (hH.front 3 rfl).all1) ?_)
  rintro _ w5 ⟨rfl, hX3⟩
  refine ⟨_, rfl, ?_⟩
  have hH4 : Has E w5 [[Hp.one pb (.cells #[(.bool p.off), (.bool p.armed), (.int .i64 p.left), (.int .i64 p.uses)] 78 (0, 0))], hL, [Hp.one mb (.map es c)], [Hp.one db (.cells #[(.pointer (some ⟨pb, 0, none⟩)), v, (.map (some mb))] 84 (0, 0))], R] := hX3.of_all1
  refine s_op (o_pick_t (u := (.bool (!p.off))) rfl rfl ?_)
  refine s_op (o_assign (v := (.bool (!p.off))) rfl ?_)
  refine s_nil ?_
  refine t_norm (hK2 _ _ ?_)
  refine wp_ret ?_
  refine c_ret1 Tryz.results44  (v := (.bool (!p.off))) rfl ?_
  have hH6 : Has E w5 [hL, [Hp.one mb (.map es c)], [Hp.one db (.cells #[(.pointer (some ⟨pb, 0, none⟩)), v, (.map (some mb))] 84 (0, 0))], [Hp.one pb (.cells #[(.bool p.off), (.bool p.armed), (.int .i64 p.left), (.int .i64 p.uses)] 78 (0, 0))], R] := (((((hH4.front 4 rfl).front 1 rfl).front 4 rfl).front 4 rfl).front 4 rfl).first 5 rfl
  exact ⟨rfl, hH6⟩
set_option maxHeartbeats 4000000 in
theorem has_i {E w : World} {R hL : List Hp} {pb db mb c : Nat} {p : Pw} {v : Value} {es : Array MapEntry} {la : List Bs} {lo : List (Int × Bs)} (hH : Has E w [hL, [Hp.one mb (.map es c)], [Hp.one db (.cells #[(.pointer (some ⟨pb, 0, none⟩)), v, (.map (some mb))] 84 (0, 0))], [Hp.one pb (.cells #[(.bool p.off), (.bool p.armed), (.int .i64 p.left), (.int .i64 p.uses)] 78 (0, 0))], R]) (ho : Own 9 1 v la.length (la.map sV) hL) (hm : MapV iV sV es c lo) (n : Int) :
    Calls Tryz.prog 43 #[(.pointer (some ⟨db, 0, none⟩)), (.int .i64 n)] w fun e w' => e = .returned (.bool (decide (inS n la.length))) ∧ Has E w' [hL, [Hp.one mb (.map es c)], [Hp.one db (.cells #[(.pointer (some ⟨pb, 0, none⟩)), v, (.map (some mb))] 84 (0, 0))], [Hp.one pb (.cells #[(.bool p.off), (.bool p.armed), (.int .i64 p.left), (.int .i64 p.uses)] 78 (0, 0))], R] := by
  refine c_enter (args := [(.pointer (some ⟨db, 0, none⟩)), (.int .i64 n)]) Tryz.func43 rfl Tryz.ntmps43 (by simp) ?_
  refine wp_seq_k fun K1 hK1 => ?_
  refine c_region ?_
  refine s_op (o_assign (v := (.bool false)) rfl ?_)
  refine s_nil ?_
  refine t_norm (hK1 _ _ ?_)
  refine wp_seq_k fun K2 hK2 => ?_
  refine c_region ?_
  refine s_op (o_move (v := (.int .i64 n)) rfl ?_)
  refine s_op (o_geq (a := n) (b := 0) rfl rfl ?_)
  refine s_op (o_move (v := (.bool (decide (0 ≤ n)))) rfl ?_)
  by_cases h3 : 0 ≤ n
  · -- 0 ≤ n
    refine s_on 7 rfl (congrArg Value.bool (decide_eq_true h3)) (o_move (v := (.int .i64 n)) rfl ?_)
    refine s_on 7 rfl (congrArg Value.bool (decide_eq_true h3)) (o_move (v := (.pointer (some ⟨db, 0, none⟩))) rfl ?_)
    refine s_on 7 rfl (congrArg Value.bool (decide_eq_true h3)) (o_callf (vs := #[(.pointer (some ⟨db, 0, none⟩))]) ca68 rfl (args1 rfl) (sectors_i (p := p) (la := la) (lo := lo) ((((hH.front 3 rfl).front 3 rfl).front 3 rfl).front 3 rfl).all4 ho hm ) ?_)
    rintro _ w6 ⟨rfl, hX4⟩
    refine ⟨_, rfl, ?_⟩
    have hH5 : Has E w6 [hL, [Hp.one mb (.map es c)], [Hp.one db (.cells #[(.pointer (some ⟨pb, 0, none⟩)), v, (.map (some mb))] 84 (0, 0))], [Hp.one pb (.cells #[(.bool p.off), (.bool p.armed), (.int .i64 p.left), (.int .i64 p.uses)] 78 (0, 0))], R] := hX4.of_all4
    refine s_on 7 rfl (congrArg Value.bool (decide_eq_true h3)) (o_lss (a := n) (b := ((la.length : Nat) : Int)) rfl rfl ?_)
    refine s_op (o_pick_t (u := (.bool (decide (n < ((la.length : Nat) : Int))))) ((rfl : _ = _).trans (congrArg Value.bool (decide_eq_true h3))) rfl ?_)
    refine s_op (o_assign (v := (.bool (decide (n < ((la.length : Nat) : Int))))) rfl ?_)
    refine s_nil ?_
    refine t_norm (hK2 _ _ ?_)
    refine wp_ret ?_
    refine c_ret1 Tryz.results43  (v := (.bool (decide (n < ((la.length : Nat) : Int))))) rfl ?_
    exact ⟨congrArg Ending.returned (congrArg Value.bool (decide_eq_decide.2 ⟨fun g => ⟨h3, g⟩, fun g => g.2⟩)), hH5⟩
  · -- not: 0 ≤ n
    refine s_off (b' := false) 7 rfl (congrArg Value.bool (decide_eq_false h3)) rfl ?_
    refine s_off (b' := false) 7 rfl (congrArg Value.bool (decide_eq_false h3)) rfl ?_
    refine s_off (b' := false) 7 rfl (congrArg Value.bool (decide_eq_false h3)) rfl ?_
    refine s_off (b' := false) 7 rfl (congrArg Value.bool (decide_eq_false h3)) rfl ?_
    refine s_op (o_pick_f (u := (.bool false)) ((rfl : _ = _).trans (congrArg Value.bool (decide_eq_false h3))) rfl ?_)
    refine s_op (o_assign (v := (.bool false)) rfl ?_)
    refine s_nil ?_
    refine t_norm (hK2 _ _ ?_)
    refine wp_ret ?_
    refine c_ret1 Tryz.results43  (v := (.bool false)) rfl ?_
    exact ⟨congrArg Ending.returned (congrArg Value.bool (decide_eq_false (fun g : inS n la.length => h3 g.1)).symm), hH⟩
set_option maxHeartbeats 4000000 in
theorem duses_i {E w : World} {R hL : List Hp} {pb db mb c : Nat} {p : Pw} {v : Value} {es : Array MapEntry} {la : List Bs} {lo : List (Int × Bs)} (hH : Has E w [hL, [Hp.one mb (.map es c)], [Hp.one db (.cells #[(.pointer (some ⟨pb, 0, none⟩)), v, (.map (some mb))] 84 (0, 0))], [Hp.one pb (.cells #[(.bool p.off), (.bool p.armed), (.int .i64 p.left), (.int .i64 p.uses)] 78 (0, 0))], R]) (ho : Own 9 1 v la.length (la.map sV) hL) (hm : MapV iV sV es c lo) :
    Calls Tryz.prog 27 #[(.pointer (some ⟨db, 0, none⟩))] w fun e w' => e = .returned (.int .i64 p.uses) ∧ Has E w' [hL, [Hp.one mb (.map es c)], [Hp.one db (.cells #[(.pointer (some ⟨pb, 0, none⟩)), v, (.map (some mb))] 84 (0, 0))], [Hp.one pb (.cells #[(.bool p.off), (.bool p.armed), (.int .i64 p.left), (.int .i64 p.uses)] 78 (0, 0))], R] := by
  refine c_enter (args := [(.pointer (some ⟨db, 0, none⟩))]) Tryz.func27 rfl Tryz.ntmps27 (by simp) ?_
  refine wp_seq_k fun K1 hK1 => ?_
  refine c_region ?_
  refine s_op (o_assign (v := (.int .i64 0)) rfl ?_)
  refine s_nil ?_
  refine t_norm (hK1 _ _ ?_)
  refine wp_seq_k fun K2 hK2 => ?_
  refine wp_seq_k fun K3 hK3 => ?_
  refine c_region ?_
  refine s_op (o_move (v := (.pointer (some ⟨db, 0, none⟩))) rfl ?_)
  refine s_op (o_pnil (p := some _) Tryz.underlying34 rfl rfl ?_)
  refine s_nil ?_
  refine t_norm (hK3 _ _ ?_)
  refine c_false rfl rfl ?_
  refine wp_skip ?_
  refine t_norm (hK2 _ _ ?_)
  refine wp_seq_k fun K4 hK4 => ?_
  refine c_region ?_
  refine s_op (o_move (v := (.pointer (some ⟨db, 0, none⟩))) rfl ?_)
  refine s_op (o_nilCheck rfl ?_)
  refine s_op (o_fieldAddr (k := 0) (fun _ => by kernel_rfl) rfl ?_)
  refine s_op (o_load1 (v := (.pointer (some ⟨pb, 0, none⟩))) Tryz.underlying76 rfl rfl hH (seg_sub 2 rfl) (CellsAt.one rfl) ?_)
  refine s_op (o_callf (vs := #[(.pointer (some ⟨pb, 0, none⟩))]) ca51 rfl (args1 rfl) (puses_c (p := p) (hH.front 3 rfl).all1) ?_)
  rintro _ w7 ⟨rfl, hX5⟩
  refine ⟨_, rfl, ?_⟩
  have hH6 : Has E w7 [[Hp.one pb (.cells #[(.bool p.off), (.bool p.armed), (.int .i64 p.left), (.int .i64 p.uses)] 78 (0, 0))], hL, [Hp.one mb (.map es c)], [Hp.one db (.cells #[(.pointer (some ⟨pb, 0, none⟩)), v, (.map (some mb))] 84 (0, 0))], R] := hX5.of_all1
  refine s_op (o_assign (v := (.int .i64 p.uses)) rfl ?_)
  refine s_nil ?_
  refine t_norm (hK4 _ _ ?_)
  refine wp_ret ?_
  refine c_ret1 Tryz.results27  (v := (.int .i64 p.uses)) rfl ?_
  have hH8 : Has E w7 [hL, [Hp.one mb (.map es c)], [Hp.one db (.cells #[(.pointer (some ⟨pb, 0, none⟩)), v, (.map (some mb))] 84 (0, 0))], [Hp.one pb (.cells #[(.bool p.off), (.bool p.armed), (.int .i64 p.left), (.int .i64 p.uses)] 78 (0, 0))], R] := (((((hH6.front 4 rfl).front 1 rfl).front 4 rfl).front 4 rfl).front 4 rfl).first 5 rfl
  exact ⟨rfl, hH8⟩
set_option maxHeartbeats 4000000 in
theorem darm_i {E w : World} {R hL : List Hp} {pb db mb c : Nat} {p : Pw} {v : Value} {es : Array MapEntry} {la : List Bs} {lo : List (Int × Bs)} (hH : Has E w [hL, [Hp.one mb (.map es c)], [Hp.one db (.cells #[(.pointer (some ⟨pb, 0, none⟩)), v, (.map (some mb))] 84 (0, 0))], [Hp.one pb (.cells #[(.bool p.off), (.bool p.armed), (.int .i64 p.left), (.int .i64 p.uses)] 78 (0, 0))], R]) (ho : Own 9 1 v la.length (la.map sV) hL) (hm : MapV iV sV es c lo) (n : Int) :
    Calls Tryz.prog 29 #[(.pointer (some ⟨db, 0, none⟩)), (.int .i64 n)] w fun e w' => e = .returned (.tuple #[]) ∧ Has E w' [hL, [Hp.one mb (.map es c)], [Hp.one db (.cells #[(.pointer (some ⟨pb, 0, none⟩)), v, (.map (some mb))] 84 (0, 0))], [Hp.one pb (.cells #[(.bool (armS p n).off), (.bool (armS p n).armed), (.int .i64 (armS p n).left), (.int .i64 (armS p n).uses)] 78 (0, 0))], R] := by
  refine c_enter (args := [(.pointer (some ⟨db, 0, none⟩)), (.int .i64 n)]) Tryz.func29 rfl Tryz.ntmps29 (by simp) ?_
  refine wp_seq_k fun K1 hK1 => ?_
  refine c_region ?_
  refine s_op (o_move (v := (.pointer (some ⟨db, 0, none⟩))) rfl ?_)
  refine s_op (o_pnnil (p := some _) Tryz.underlying34 rfl rfl ?_)
  refine s_nil ?_
  refine t_norm (hK1 _ _ ?_)
  refine c_true rfl rfl ?_
  refine c_region ?_
  refine s_op (o_move (v := (.pointer (some ⟨db, 0, none⟩))) rfl ?_)
  refine s_op (o_nilCheck rfl ?_)
  refine s_op (o_fieldAddr (k := 0) (fun _ => by kernel_rfl) rfl ?_)
  refine s_op (o_load1 (v := (.pointer (some ⟨pb, 0, none⟩))) Tryz.underlying76 rfl rfl hH (seg_sub 2 rfl) (CellsAt.one rfl) ?_)
  refine s_op (o_move (v := (.int .i64 n)) rfl ?_)
  refine s_op (o_callf (vs := #[(.pointer (some ⟨pb, 0, none⟩)), (.int .i64 n)]) ca52 rfl (args2 rfl rfl) (parm_c (p := p) (hH.front 3 rfl).all1 n) ?_)
  rintro _ w4 ⟨rfl, hX2⟩
  refine ⟨_, rfl, ?_⟩
  have hH3 : Has E w4 [[Hp.one pb (.cells #[(.bool (armS p n).off), (.bool (armS p n).armed), (.int .i64 (armS p n).left), (.int .i64 (armS p n).uses)] 78 (0, 0))], hL, [Hp.one mb (.map es c)], [Hp.one db (.cells #[(.pointer (some ⟨pb, 0, none⟩)), v, (.map (some mb))] 84 (0, 0))], R] := hX2.of_all1
  refine s_nil ?_
  refine c_end0 Tryz.results29  ?_
  have hH5 : Has E w4 [hL, [Hp.one mb (.map es c)], [Hp.one db (.cells #[(.pointer (some ⟨pb, 0, none⟩)), v, (.map (some mb))] 84 (0, 0))], [Hp.one pb (.cells #[(.bool (armS p n).off), (.bool (armS p n).armed), (.int .i64 (armS p n).left), (.int .i64 (armS p n).uses)] 78 (0, 0))], R] := (((((hH3.front 4 rfl).front 1 rfl).front 4 rfl).front 4 rfl).front 4 rfl).first 5 rfl
  exact ⟨rfl, hH5⟩
end Go.Q
namespace Go.Q
open Go.Proofs
set_option linter.unusedVariables false
set_option maxRecDepth 100000
attribute [local irreducible] wpList OK Code.wp
set_option maxHeartbeats 4000000 in
theorem settle_i {E w : World} {R hL : List Hp} {pb db mb c : Nat} {p : Pw} {v : Value} {es : Array MapEntry} {la : List Bs} {lo : List (Int × Bs)} (hH : Has E w [hL, [Hp.one mb (.map es c)], [Hp.one db (.cells #[(.pointer (some ⟨pb, 0, none⟩)), v, (.map (some mb))] 84 (0, 0))], [Hp.one pb (.cells #[(.bool p.off), (.bool p.armed), (.int .i64 p.left), (.int .i64 p.uses)] 78 (0, 0))], R]) (ho : Own 9 1 v la.length (la.map sV) hL) (hm : MapV iV sV es c lo) (hlo : LoOk lo la.length) {vk : Value} {keep : List Int} (hk_ : Ints R vk keep) :
    Calls Tryz.prog 54 #[(.pointer (some ⟨db, 0, none⟩)), vk] w fun e w' => ∃ hL' es' c', e = .returned (.tuple #[]) ∧ Own 9 1 v (settleS lo la keep).length ((settleS lo la keep).map sV) hL' ∧ MapV iV sV es' c' ([] : List (Int × Bs)) ∧ Has E w' [hL', [Hp.one mb (.map es' c')], [Hp.one db (.cells #[(.pointer (some ⟨pb, 0, none⟩)), v, (.map (some mb))] 84 (0, 0))], [Hp.one pb (.cells #[(.bool p.off), (.bool p.armed), (.int .i64 p.left), (.int .i64 p.uses)] 78 (0, 0))], R] := by
  have hnk := hk_.le
  refine c_enter (args := [(.pointer (some ⟨db, 0, none⟩)), vk]) Tryz.func54 rfl Tryz.ntmps54 (by simp) ?_
  refine wp_seq_k fun K1 hK1 => ?_
  refine wp_seq_k fun K2 hK2 => ?_
  refine c_region ?_
  refine s_op (o_move (v := vk) rfl ?_)
  refine s_op (o_lenS Tryz.underlying46 rfl hk_ ?_)
  refine s_op (o_move (v := (.int .i64 0)) rfl ?_)
  refine s_nil ?_
  refine t_norm (hK2 _ _ ?_)
  refine wp_block ?_
  let I4 : Nat → (Nat → Value) → World → Prop := fun n__ r__ w__ => ∃ (k : Nat) (h2 : List Hp) (la2 : List Bs), n__ = keep.length - k ∧ Has E w__ [h2, [Hp.one mb (.map es c)], [Hp.one db (.cells #[(.pointer (some ⟨pb, 0, none⟩)), v, (.map (some mb))] 84 (0, 0))], [Hp.one pb (.cells #[(.bool p.off), (.bool p.armed), (.int .i64 p.left), (.int .i64 p.uses)] 78 (0, 0))], R] ∧ (k ≤ keep.length) ∧ (Own 9 1 v la2.length (la2.map sV) h2) ∧ (la2 = settleS lo la (keep.take k)) ∧ r__ 0 = (.pointer (some ⟨db, 0, none⟩)) ∧ r__ 1 = vk ∧ r__ 8 = vk ∧ r__ 9 = (.int .i64 ((keep.length : Nat) : Int)) ∧ r__ 10 = (.int .i64 (k : Int))
  refine c_loop I4 _ ⟨0, hL, la, rfl, hH, Nat.zero_le _, ho, rfl, rfl, rfl, rfl, rfl, rfl⟩ ?_
  rintro n_ r7 w5 ⟨k, h2, la2, rfl, hH6, hk, ho2, hla, e3_0, e3_1, e3_8, e3_9, e3_10⟩
  have hl2 : la2.length = la.length := (by rw [hla, settle_len])
  refine wp_seq_k fun K8 hK8 => ?_
  refine c_region ?_
  refine s_op (o_lss (a := (k : Int)) (b := ((keep.length : Nat) : Int)) e3_10 e3_9 ?_)
  refine s_nil ?_
  refine t_norm (hK8 _ _ ?_)
  refine wp_seq_k fun K9 hK9 => ?_
  refine c_cond rfl (fun h10 => ?_) (fun h10 => ?_)
  · -- (k : Int) < ((keep.length : Nat) : Int)
    refine wp_skip ?_
    refine t_norm (hK9 _ _ ?_)
    refine wp_seq_k fun K11 hK11 => ?_
    refine wp_block ?_
    refine wp_seq_k fun K12 hK12 => ?_
    refine c_region ?_
    obtain ⟨x16, hx17⟩ : ∃ x_, keep[((k : Int)).toNat]? = some x_ := get_some (by omega)
    refine s_op (o_index1 Tryz.underlying46 ti3 e3_8 hk_ e3_10 (by omega) hx17 fun b13 o14 hc15 => ?_)
    refine s_op (o_load1 (v := (.int .i64 x16)) Tryz.underlying3 rfl rfl hH6 (seg_sub 4 rfl) hc15 ?_)
    refine s_op (o_assign (v := (.int .i64 x16)) rfl ?_)
    refine s_nil ?_
    refine t_norm (hK12 _ _ ?_)
    refine wp_seq_k fun K18 hK18 => ?_
    refine c_region ?_
    refine s_op (o_move (v := (.pointer (some ⟨db, 0, none⟩))) e3_0 ?_)
    refine s_op (o_nilCheck rfl ?_)
    refine s_op (o_fieldAddr (k := 2) (fun _ => by kernel_rfl) rfl ?_)
    refine s_op (o_load1 (v := (.map (some mb))) Tryz.underlying82 rfl rfl hH6 (seg_sub 2 rfl) (CellsAt.one rfl) ?_)
    refine s_op (o_move (v := (.int .i64 x16)) rfl ?_)
    refine s_op (o_lookupSk (L := [Hp.one mb (.map es c)]) (k := x16) Tryz.underlying82 (key_int Tryz.underlying3) ti9 rfl rfl hH6 (seg_sub 1 rfl) rfl hm ?_)
    refine s_op (o_move (v := (.tuple #[(S ((getB lo x16).getD [])), (.bool ((getB lo x16).isSome))])) rfl ?_)
    refine s_op (o_extract (v := (S ((getB lo x16).getD []))) rfl rfl ?_)
    refine s_op (o_extract (v := (.bool ((getB lo x16).isSome))) rfl rfl ?_)
    refine s_op (o_assign (v := (S ((getB lo x16).getD []))) rfl ?_)
    refine s_op (o_assign (v := (.bool ((getB lo x16).isSome))) rfl ?_)
    refine s_nil ?_
    refine t_norm (hK18 _ _ ?_)
    refine wp_seq_k fun K19 hK19 => ?_
    refine c_region ?_
    refine s_op (o_move (v := (.bool ((getB lo x16).isSome))) rfl ?_)
    refine s_nil ?_
    refine t_norm (hK19 _ _ ?_)
    refine c_condb rfl (fun h20 => ?_) (fun h20 => ?_)
    · -- (getB lo x16).isSome
      have hin_ := hlo.get h20
      unfold inS at hin_
      refine c_region ?_
      refine s_op (o_move (v := (.pointer (some ⟨db, 0, none⟩))) e3_0 ?_)
      refine s_op (o_nilCheck rfl ?_)
      refine s_op (o_fieldAddr (k := 1) (fun _ => by kernel_rfl) rfl ?_)
      refine s_op (o_load1 (v := v) Tryz.underlying79 rfl rfl hH6 (seg_sub 2 rfl) (CellsAt.one rfl) ?_)
      refine s_op (o_move (v := (.int .i64 x16)) rfl ?_)
      refine s_op (o_move (v := (S ((getB lo x16).getD []))) rfl ?_)
      refine s_op (o_ownAddr Tryz.underlying79 ti9 rfl ho2 rfl (by omega) (by first | omega | (simp only [List.length_append, List.length_cons, List.length_nil, List.length_set]; omega)) fun b21 ho22 => ?_)
      refine s_eff (o_ownStore (f := sV) (l := la2) (a := ((getB lo x16).getD [])) ti9 rfl rfl rfl ho22 (by first | omega | (simp only [List.length_append, List.length_cons, List.length_nil, List.length_set]; omega)) hH6 fun s23 w24 ho25 hH26 => ?_)
      refine s_nil ?_
      refine b_norm ?_
      refine t_norm (hK11 _ _ ?_)
      refine c_region ?_
      refine s_op (o_add (a := (k : Int)) (b := 1) e3_10 rfl (w64 (by omega) (by omega)) ?_)
      refine s_op (o_move (v := (.int .i64 ((k : Int) + 1))) rfl ?_)
      refine s_nil ?_
      refine t_norm ⟨keep.length - (k + 1), _, rfl, ?_, ?_⟩
      · omega
      · exact ⟨(k + 1), s23, (la2.set ((x16).toNat) ((getB lo x16).getD [])), rfl, hH26, (by omega), (ho25), (by rw [settle_yes (show keep[k]? = some _ from hx17) h20, ← hla]), e3_0, e3_1, e3_8, e3_9, rfl⟩
    · -- not: (getB lo x16).isSome
      refine wp_skip ?_
      refine b_norm ?_
      refine t_norm (hK11 _ _ ?_)
      refine c_region ?_
      refine s_op (o_add (a := (k : Int)) (b := 1) e3_10 rfl (w64 (by omega) (by omega)) ?_)
      refine s_op (o_move (v := (.int .i64 ((k : Int) + 1))) rfl ?_)
      refine s_nil ?_
      refine t_norm ⟨keep.length - (k + 1), _, rfl, ?_, ?_⟩
      · omega
      · exact ⟨(k + 1), h2, la2, rfl, hH6, (by omega), (ho2), (by rw [settle_no (show keep[k]? = some _ from hx17) h20, ← hla]), e3_0, e3_1, e3_8, e3_9, rfl⟩
  · -- not: (k : Int) < ((keep.length : Nat) : Int)
    refine wp_exit ?_
    refine t_exit (t_exit (x_in (?_)))
    refine t_norm (hK1 _ _ ?_)
    refine c_region ?_
    refine s_op (o_move (v := (.pointer (some ⟨db, 0, none⟩))) e3_0 ?_)
    refine s_op (o_nilCheck rfl ?_)
    refine s_op (o_fieldAddr (k := 2) (fun _ => by kernel_rfl) rfl ?_)
    refine s_op (o_load1 (v := (.map (some mb))) Tryz.underlying82 rfl rfl hH6 (seg_sub 2 rfl) (CellsAt.one rfl) ?_)
    refine s_eff (o_clearMap (gk := iV) (f := sV) Tryz.underlying82 rfl (hH6.front 1 rfl) hm fun es27 c28 w29 he30 hH31 => ?_)
    refine s_nil ?_
    refine c_end0 Tryz.results54  ?_
    have hH32 : Has E w29 [h2, [Hp.one mb (.map es27 c28)], [Hp.one db (.cells #[(.pointer (some ⟨pb, 0, none⟩)), v, (.map (some mb))] 84 (0, 0))], [Hp.one pb (.cells #[(.bool p.off), (.bool p.armed), (.int .i64 p.left), (.int .i64 p.uses)] 78 (0, 0))], R] := (((((hH31.front 4 rfl).front 4 rfl).front 4 rfl).front 3 rfl).front 4 rfl).first 5 rfl
    have e_ : k = keep.length := by omega
    rw [e_, List.take_length] at hla
    exact ⟨_, _, _, rfl, by rw [← hla]; exact ho2, he30, hH32⟩
end Go.Q
namespace Go.Q
open Go.Proofs
set_option linter.unusedVariables false
set_option maxRecDepth 100000
attribute [local irreducible] wpList OK Code.wp
set_option maxHeartbeats 4000000 in
theorem loose_i {E w : World} {R hL : List Hp} {pb db mb c : Nat} {p : Pw} {v : Value} {es : Array MapEntry} {la : List Bs} {lo : List (Int × Bs)} (hH : Has E w [hL, [Hp.one mb (.map es c)], [Hp.one db (.cells #[(.pointer (some ⟨pb, 0, none⟩)), v, (.map (some mb))] 84 (0, 0))], [Hp.one pb (.cells #[(.bool p.off), (.bool p.armed), (.int .i64 p.left), (.int .i64 p.uses)] 78 (0, 0))], R]) (ho : Own 9 1 v la.length (la.map sV) hL) (hm : MapV iV sV es c lo) (hlo : LoOk lo la.length) (hla : la.length ≤ 4096) :
    Calls Tryz.prog 78 #[(.pointer (some ⟨db, 0, none⟩))] w fun e w' => ∃ v' hs', e = .returned v' ∧ Own 3 1 v' (keysS lo).length ((keysS lo).map iV) hs' ∧ Has E w' [hs', hL, [Hp.one mb (.map es c)], [Hp.one db (.cells #[(.pointer (some ⟨pb, 0, none⟩)), v, (.map (some mb))] 84 (0, 0))], [Hp.one pb (.cells #[(.bool p.off), (.bool p.armed), (.int .i64 p.left), (.int .i64 p.uses)] 78 (0, 0))], R] := by
  refine c_enter (args := [(.pointer (some ⟨db, 0, none⟩))]) Tryz.func78 rfl Tryz.ntmps78 (by simp) ?_
  refine wp_seq_k fun K1 hK1 => ?_
  refine c_region ?_
  refine s_op (o_assign (v := (.slice none 0 0)) rfl ?_)
  refine s_nil ?_
  refine t_norm (hK1 _ _ ?_)
  refine wp_seq_k fun K2 hK2 => ?_
  refine wp_seq_k fun K3 hK3 => ?_
  refine c_region ?_
  refine s_op (o_move (v := (.pointer (some ⟨db, 0, none⟩))) rfl ?_)
  refine s_op (o_pnil (p := some _) Tryz.underlying34 rfl rfl ?_)
  refine s_nil ?_
  refine t_norm (hK3 _ _ ?_)
  refine c_false rfl rfl ?_
  refine wp_skip ?_
  refine t_norm (hK2 _ _ ?_)
  refine wp_seq_k fun K4 hK4 => ?_
  refine c_region ?_
  refine s_op (o_move (v := (.pointer (some ⟨db, 0, none⟩))) rfl ?_)
  refine s_op (o_nilCheck rfl ?_)
  refine s_op (o_fieldAddr (k := 2) (fun _ => by kernel_rfl) rfl ?_)
  refine s_op (o_load1 (v := (.map (some mb))) Tryz.underlying82 rfl rfl hH (seg_sub 2 rfl) (CellsAt.one rfl) ?_)
  refine s_op (o_callf (vs := #[(.map (some mb))]) ca90 rfl (args1 rfl) (mkeys_c hH.all mb) ?_)
  rintro _ w9 ⟨b5, rfl, hX7⟩
  refine ⟨_, rfl, ?_⟩
  have hH8 : Has E w9 [[Hp.one b5 (.cells #[(.map (some mb))] 82 (0, 0))], hL, [Hp.one mb (.map es c)], [Hp.one db (.cells #[(.pointer (some ⟨pb, 0, none⟩)), v, (.map (some mb))] 84 (0, 0))], [Hp.one pb (.cells #[(.bool p.off), (.bool p.armed), (.int .i64 p.left), (.int .i64 p.uses)] 78 (0, 0))], R] := hX7.of_all1
  refine s_op (o_callf (vs := #[(.func (.func 98) #[] #[.pointer (some ⟨b5, 0, none⟩)])]) ca89 rfl (args1 rfl) (skeys_c ((hH8.front 2 rfl).front 1 rfl).all2 hm (fun q hq => wf_of (hlo q hq).1 (by omega)) (lo_le hm hlo (by omega))) ?_)
  rintro _ w15 ⟨v10, s11, rfl, ho12, hX13⟩
  refine ⟨_, rfl, ?_⟩
  have hH14 : Has E w15 [s11, [Hp.one b5 (.cells #[(.map (some mb))] 82 (0, 0))], [Hp.one mb (.map es c)], hL, [Hp.one db (.cells #[(.pointer (some ⟨pb, 0, none⟩)), v, (.map (some mb))] 84 (0, 0))], [Hp.one pb (.cells #[(.bool p.off), (.bool p.armed), (.int .i64 p.left), (.int .i64 p.uses)] 78 (0, 0))], R] := hX13.of_all3
  refine s_op (o_assign (v := v10) rfl ?_)
  refine s_nil ?_
  refine t_norm (hK4 _ _ ?_)
  refine wp_ret ?_
  refine c_ret1 Tryz.results78  (v := v10) rfl ?_
  have hH16 : Has E w15 [s11, hL, [Hp.one mb (.map es c)], [Hp.one db (.cells #[(.pointer (some ⟨pb, 0, none⟩)), v, (.map (some mb))] 84 (0, 0))], [Hp.one pb (.cells #[(.bool p.off), (.bool p.armed), (.int .i64 p.left), (.int .i64 p.uses)] 78 (0, 0))], R] := Has.pick hH14 [0, 2, 1, 1, 1, 1] (by kernel_rfl)
  exact ⟨_, _, rfl, ho12, hH16⟩
end Go.Q
namespace Go.Q
open Go.Proofs
set_option linter.unusedVariables false
set_option maxRecDepth 100000
attribute [local irreducible] wpList OK Code.wp
set_option maxHeartbeats 4000000 in
theorem write_i {E w : World} {R hL : List Hp} {pb db mb c : Nat} {p : Pw} {v : Value} {es : Array MapEntry} {la : List Bs} {lo : List (Int × Bs)} (hH : Has E w [hL, [Hp.one mb (.map es c)], [Hp.one db (.cells #[(.pointer (some ⟨pb, 0, none⟩)), v, (.map (some mb))] 84 (0, 0))], [Hp.one pb (.cells #[(.bool p.off), (.bool p.armed), (.int .i64 p.left), (.int .i64 p.uses)] 78 (0, 0))], R]) (ho : Own 9 1 v la.length (la.map sV) hL) (hm : MapV iV sV es c lo) (hp : PwOk p) (hla : la.length ≤ 4096) (n : Int) {vd : Value} {l : List Bs} (hd : Sl R 1 vd l.length (l.map sV)) (hn : l.length ≤ 1000000) (hl : l.flatten.length ≤ 1000000000) :
    Calls Tryz.prog 49 #[(.pointer (some ⟨db, 0, none⟩)), (.int .i64 n), vd] w fun e w' => ∃ es' c', e = .returned (.int .i64 (writeE p la.length n l.flatten)) ∧ MapV iV sV es' c' (writeS p la.length lo n l.flatten) ∧ Has E w' [hL, [Hp.one mb (.map es' c')], [Hp.one db (.cells #[(.pointer (some ⟨pb, 0, none⟩)), v, (.map (some mb))] 84 (0, 0))], [Hp.one pb (.cells #[(.bool (useS p).off), (.bool (useS p).armed), (.int .i64 (useS p).left), (.int .i64 (useS p).uses)] 78 (0, 0))], R] := by
  have hn_ := hd.le
  refine c_enter (args := [(.pointer (some ⟨db, 0, none⟩)), (.int .i64 n), vd]) Tryz.func49 rfl Tryz.ntmps49 (by simp) ?_
  refine wp_seq_k fun K1 hK1 => ?_
  refine c_region ?_
  refine s_op (o_assign (v := (.int .i64 0)) rfl ?_)
  refine s_nil ?_
  refine t_norm (hK1 _ _ ?_)
  refine wp_seq_k fun K2 hK2 => ?_
  refine wp_seq_k fun K3 hK3 => ?_
  refine c_region ?_
  refine s_op (o_move (v := (.pointer (some ⟨db, 0, none⟩))) rfl ?_)
  refine s_op (o_pnil (p := some _) Tryz.underlying34 rfl rfl ?_)
  refine s_nil ?_
  refine t_norm (hK3 _ _ ?_)
  refine c_false rfl rfl ?_
  refine wp_skip ?_
  refine t_norm (hK2 _ _ ?_)
  refine wp_seq_k fun K4 hK4 => ?_
  refine wp_seq_k fun K5 hK5 => ?_
  refine c_region ?_
  refine s_op (o_move (v := (.pointer (some ⟨db, 0, none⟩))) rfl ?_)
  refine s_op (o_nilCheck rfl ?_)
  refine s_op (o_fieldAddr (k := 0) (fun _ => by kernel_rfl) rfl ?_)
  refine s_op (o_load1 (v := (.pointer (some ⟨pb, 0, none⟩))) Tryz.underlying76 rfl rfl hH (seg_sub 2 rfl) (CellsAt.one rfl) ?_)
  refine s_op (o_callf (vs := #[(.pointer (some ⟨pb, 0, none⟩))]) ca77 rfl (args1 rfl) (use_c (p := p) (hH.front 3 rfl).all1 hp) ?_)
  rintro _ w8 ⟨rfl, hX6⟩
  refine ⟨_, rfl, ?_⟩
  have hH7 : Has E w8 [[Hp.one pb (.cells #[(.bool (useS p).off), (.bool (useS p).armed), (.int .i64 (useS p).left), (.int .i64 (useS p).uses)] 78 (0, 0))], hL, [Hp.one mb (.map es c)], [Hp.one db (.cells #[(.pointer (some ⟨pb, 0, none⟩)), v, (.map (some mb))] 84 (0, 0))], R] := hX6.of_all1
  refine s_op (o_not rfl ?_)
  refine s_nil ?_
  refine t_norm (hK5 _ _ ?_)
  refine c_condb rfl (fun h9 => ?_) (fun h9 => ?_)
  · -- !(useB p)
    have h9_n : (useB p) = false := by simpa using h9
    refine wp_seq_k fun K10 hK10 => ?_
    refine c_region ?_
    refine s_op (o_assign (v := (.int .i64 6)) rfl ?_)
    refine s_nil ?_
    refine t_norm (hK10 _ _ ?_)
    refine wp_ret ?_
    refine t_ret (c_ret1 Tryz.results49  (v := (.int .i64 6)) rfl ?_)
    have hH11 : Has E w8 [hL, [Hp.one mb (.map es c)], [Hp.one db (.cells #[(.pointer (some ⟨pb, 0, none⟩)), v, (.map (some mb))] 84 (0, 0))], [Hp.one pb (.cells #[(.bool (useS p).off), (.bool (useS p).armed), (.int .i64 (useS p).left), (.int .i64 (useS p).uses)] 78 (0, 0))], R] := (((((hH7.front 4 rfl).front 1 rfl).front 4 rfl).front 4 rfl).front 4 rfl).first 5 rfl
    exact ⟨_, _, by rw [writeE, if_neg (ne_true_of_eq_false h9_n)], by rw [writeS, if_neg (fun g => (ne_true_of_eq_false h9_n) g.1)]; exact hm, hH11⟩
  · -- not: !(useB p)
    have h9_n : (useB p) = true := by simpa using h9
    refine wp_skip ?_
    refine t_norm (hK4 _ _ ?_)
    refine wp_seq_k fun K12 hK12 => ?_
    refine c_region ?_
    refine s_op (o_move (v := vd) rfl ?_)
    refine s_op (o_callf (vs := #[vd]) ca42 rfl (args1 rfl) (filled_c hH7.all (l := l) (hd.mono (seg_sub 4 rfl)) (by omega) (by omega)) ?_)
    rintro _ w15 ⟨rfl, hX13⟩
    refine ⟨_, rfl, ?_⟩
    have hH14 := hX13.of_all
    refine s_op (o_move (v := (.tuple #[(S (if l.flatten.length ≤ 64 then fillS l.flatten else [])), (.bool (decide (l.flatten.length ≤ 64)))])) rfl ?_)
    refine s_op (o_extract (v := (S (if l.flatten.length ≤ 64 then fillS l.flatten else []))) rfl rfl ?_)
    refine s_op (o_extract (v := (.bool (decide (l.flatten.length ≤ 64)))) rfl rfl ?_)
    refine s_op (o_assign (v := (S (if l.flatten.length ≤ 64 then fillS l.flatten else []))) rfl ?_)
    refine s_op (o_assign (v := (.bool (decide (l.flatten.length ≤ 64)))) rfl ?_)
    refine s_nil ?_
    refine t_norm (hK12 _ _ ?_)
    refine wp_seq_k fun K16 hK16 => ?_
    refine wp_seq_k fun K17 hK17 => ?_
    refine c_region ?_
    refine s_op (o_move (v := (.bool (decide (l.flatten.length ≤ 64)))) rfl ?_)
    refine s_op (o_not2 (b := decide (l.flatten.length ≤ 64)) (b' := decide (¬ (l.flatten.length ≤ 64))) rfl not_dec ?_)
    refine s_op (o_move (v := (.bool (decide (¬ (l.flatten.length ≤ 64))))) rfl ?_)
    by_cases h18 : ¬ (l.flatten.length ≤ 64)
    · -- ¬ (l.flatten.length ≤ 64)
      refine s_off (b' := true) 24 rfl (congrArg Value.bool (decide_eq_true h18)) rfl ?_
      refine s_off (b' := true) 24 rfl (congrArg Value.bool (decide_eq_true h18)) rfl ?_
      refine s_off (b' := true) 24 rfl (congrArg Value.bool (decide_eq_true h18)) rfl ?_
      refine s_off (b' := true) 24 rfl (congrArg Value.bool (decide_eq_true h18)) rfl ?_
      refine s_op (o_pick_t (u := (.bool true)) ((rfl : _ = _).trans (congrArg Value.bool (decide_eq_true h18))) rfl ?_)
      refine s_nil ?_
      refine t_norm (hK17 _ _ ?_)
      refine c_true rfl rfl ?_
      refine wp_seq_k fun K19 hK19 => ?_
      refine c_region ?_
      refine s_op (o_assign (v := (.int .i64 1)) rfl ?_)
      refine s_nil ?_
      refine t_norm (hK19 _ _ ?_)
      refine wp_ret ?_
      refine t_ret (c_ret1 Tryz.results49  (v := (.int .i64 1)) rfl ?_)
      have hH20 : Has E w15 [hL, [Hp.one mb (.map es c)], [Hp.one db (.cells #[(.pointer (some ⟨pb, 0, none⟩)), v, (.map (some mb))] 84 (0, 0))], [Hp.one pb (.cells #[(.bool (useS p).off), (.bool (useS p).armed), (.int .i64 (useS p).left), (.int .i64 (useS p).uses)] 78 (0, 0))], R] := (((((hH14.front 4 rfl).front 1 rfl).front 4 rfl).front 4 rfl).front 4 rfl).first 5 rfl
      exact ⟨_, _, by rw [writeE, if_pos h9_n, if_neg (fun g => h18 g.1)], by rw [writeS, if_neg (fun g => h18 g.2.1)]; exact hm, hH20⟩
    · -- not: ¬ (l.flatten.length ≤ 64)
      refine s_on 24 rfl (congrArg Value.bool (decide_eq_false h18)) (o_move (v := (.pointer (some ⟨db, 0, none⟩))) rfl ?_)
      refine s_on 24 rfl (congrArg Value.bool (decide_eq_false h18)) (o_move (v := (.int .i64 n)) rfl ?_)
      refine s_on 24 rfl (congrArg Value.bool (decide_eq_false h18)) (o_callf (vs := #[(.pointer (some ⟨db, 0, none⟩)), (.int .i64 n)]) ca43 rfl (args2 rfl rfl) (has_i (p := (useS p)) (la := la) (lo := lo) (((hH14.front 3 rfl).front 3 rfl).front 3 rfl).all4 ho hm n) ?_)
      rintro _ w23 ⟨rfl, hX21⟩
      refine ⟨_, rfl, ?_⟩
      have hH22 : Has E w23 [hL, [Hp.one mb (.map es c)], [Hp.one db (.cells #[(.pointer (some ⟨pb, 0, none⟩)), v, (.map (some mb))] 84 (0, 0))], [Hp.one pb (.cells #[(.bool (useS p).off), (.bool (useS p).armed), (.int .i64 (useS p).left), (.int .i64 (useS p).uses)] 78 (0, 0))], R] := hX21.of_all4
      refine s_on 24 rfl (congrArg Value.bool (decide_eq_false h18)) (o_not2 (b := decide (inS n la.length)) (b' := decide (¬ (inS n la.length))) rfl not_dec ?_)
      refine s_op (o_pick_f (u := (.bool (decide (¬ (inS n la.length))))) ((rfl : _ = _).trans (congrArg Value.bool (decide_eq_false h18))) rfl ?_)
      refine s_nil ?_
      refine t_norm (hK17 _ _ ?_)
      refine c_cond rfl (fun h24 => ?_) (fun h24 => ?_)
      · -- ¬ (inS n la.length)
        refine wp_seq_k fun K25 hK25 => ?_
        refine c_region ?_
        refine s_op (o_assign (v := (.int .i64 1)) rfl ?_)
        refine s_nil ?_
        refine t_norm (hK25 _ _ ?_)
        refine wp_ret ?_
        refine t_ret (c_ret1 Tryz.results49  (v := (.int .i64 1)) rfl ?_)
        exact ⟨_, _, by rw [writeE, if_pos h9_n, if_neg (fun g => h24 g.2)], by rw [writeS, if_neg (fun g => h24 g.2.2)]; exact hm, hH22⟩
      · -- not: ¬ (inS n la.length)
        refine wp_skip ?_
        refine t_norm (hK16 _ _ ?_)
        refine wp_seq_k fun K26 hK26 => ?_
        refine c_region ?_
        refine s_op (o_move (v := (.pointer (some ⟨db, 0, none⟩))) rfl ?_)
        refine s_op (o_nilCheck rfl ?_)
        refine s_op (o_fieldAddr (k := 2) (fun _ => by kernel_rfl) rfl ?_)
        refine s_op (o_load1 (v := (.map (some mb))) Tryz.underlying82 rfl rfl hH22 (seg_sub 2 rfl) (CellsAt.one rfl) ?_)
        refine s_op (o_move (v := (.int .i64 n)) rfl ?_)
        refine s_op (o_move (v := (S (if l.flatten.length ≤ 64 then fillS l.flatten else []))) rfl ?_)
        refine s_eff (o_mapUpdateB (gk := iV) (f := sV) (k := n) (v := (if l.flatten.length ≤ 64 then fillS l.flatten else [])) Tryz.underlying82 (key_int Tryz.underlying3) rfl rfl rfl (hH22.front 1 rfl) hm fun es27 c28 w29 he30 hH31 => ?_)
        refine s_nil ?_
        refine t_norm (hK26 _ _ ?_)
        refine wp_seq_k fun K32 hK32 => ?_
        refine c_region ?_
        refine s_op (o_assign (v := (.int .i64 0)) rfl ?_)
        refine s_nil ?_
        refine t_norm (hK32 _ _ ?_)
        refine wp_ret ?_
        refine c_ret1 Tryz.results49  (v := (.int .i64 0)) rfl ?_
        have hH33 : Has E w29 [hL, [Hp.one mb (.map es27 c28)], [Hp.one db (.cells #[(.pointer (some ⟨pb, 0, none⟩)), v, (.map (some mb))] 84 (0, 0))], [Hp.one pb (.cells #[(.bool (useS p).off), (.bool (useS p).armed), (.int .i64 (useS p).left), (.int .i64 (useS p).uses)] 78 (0, 0))], R] := (((((hH31.front 4 rfl).front 4 rfl).front 4 rfl).front 3 rfl).front 4 rfl).first 5 rfl
        exact ⟨_, _, by rw [writeE, if_pos h9_n, if_pos ⟨(Classical.not_not.1 h18), (Classical.not_not.1 h24)⟩], by rw [writeS, if_pos ⟨h9_n, (Classical.not_not.1 h18), (Classical.not_not.1 h24)⟩]; rw [if_pos (Classical.not_not.1 h18)] at he30; exact he30, hH33⟩
set_option maxHeartbeats 4000000 in
theorem sync_i {E w : World} {R hL : List Hp} {pb db mb c : Nat} {p : Pw} {v : Value} {es : Array MapEntry} {la : List Bs} {lo : List (Int × Bs)} (hH : Has E w [hL, [Hp.one mb (.map es c)], [Hp.one db (.cells #[(.pointer (some ⟨pb, 0, none⟩)), v, (.map (some mb))] 84 (0, 0))], [Hp.one pb (.cells #[(.bool p.off), (.bool p.armed), (.int .i64 p.left), (.int .i64 p.uses)] 78 (0, 0))], R]) (ho : Own 9 1 v la.length (la.map sV) hL) (hm : MapV iV sV es c lo) (hp : PwOk p) (hla : la.length ≤ 4096) (hlo : LoOk lo la.length) :
    Calls Tryz.prog 50 #[(.pointer (some ⟨db, 0, none⟩))] w fun e w' => ∃ hL' es' c', e = .returned (.int .i64 (syncE p)) ∧ Own 9 1 v (syncA p la lo).length ((syncA p la lo).map sV) hL' ∧ MapV iV sV es' c' (syncO p lo) ∧ Has E w' [hL', [Hp.one mb (.map es' c')], [Hp.one db (.cells #[(.pointer (some ⟨pb, 0, none⟩)), v, (.map (some mb))] 84 (0, 0))], [Hp.one pb (.cells #[(.bool (useS p).off), (.bool (useS p).armed), (.int .i64 (useS p).left), (.int .i64 (useS p).uses)] 78 (0, 0))], R] := by
  refine c_enter (args := [(.pointer (some ⟨db, 0, none⟩))]) Tryz.func50 rfl Tryz.ntmps50 (by simp) ?_
  refine wp_seq_k fun K1 hK1 => ?_
  refine c_region ?_
  refine s_op (o_assign (v := (.int .i64 0)) rfl ?_)
  refine s_nil ?_
  refine t_norm (hK1 _ _ ?_)
  refine wp_seq_k fun K2 hK2 => ?_
  refine wp_seq_k fun K3 hK3 => ?_
  refine c_region ?_
  refine s_op (o_move (v := (.pointer (some ⟨db, 0, none⟩))) rfl ?_)
  refine s_op (o_pnil (p := some _) Tryz.underlying34 rfl rfl ?_)
  refine s_nil ?_
  refine t_norm (hK3 _ _ ?_)
  refine c_false rfl rfl ?_
  refine wp_skip ?_
  refine t_norm (hK2 _ _ ?_)
  refine wp_seq_k fun K4 hK4 => ?_
  refine wp_seq_k fun K5 hK5 => ?_
  refine c_region ?_
  refine s_op (o_move (v := (.pointer (some ⟨db, 0, none⟩))) rfl ?_)
  refine s_op (o_nilCheck rfl ?_)
  refine s_op (o_fieldAddr (k := 0) (fun _ => by kernel_rfl) rfl ?_)
  refine s_op (o_load1 (v := (.pointer (some ⟨pb, 0, none⟩))) Tryz.underlying76 rfl rfl hH (seg_sub 2 rfl) (CellsAt.one rfl) ?_)
  refine s_op (o_callf (vs := #[(.pointer (some ⟨pb, 0, none⟩))]) ca77 rfl (args1 rfl) (use_c (p := p) (hH.front 3 rfl).all1 hp) ?_)
  rintro _ w8 ⟨rfl, hX6⟩
  refine ⟨_, rfl, ?_⟩
  have hH7 : Has E w8 [[Hp.one pb (.cells #[(.bool (useS p).off), (.bool (useS p).armed), (.int .i64 (useS p).left), (.int .i64 (useS p).uses)] 78 (0, 0))], hL, [Hp.one mb (.map es c)], [Hp.one db (.cells #[(.pointer (some ⟨pb, 0, none⟩)), v, (.map (some mb))] 84 (0, 0))], R] := hX6.of_all1
  refine s_op (o_not rfl ?_)
  refine s_nil ?_
  refine t_norm (hK5 _ _ ?_)
  refine c_condb rfl (fun h9 => ?_) (fun h9 => ?_)
  · -- !(useB p)
    have h9_n : (useB p) = false := by simpa using h9
    refine wp_seq_k fun K10 hK10 => ?_
    refine c_region ?_
    refine s_op (o_assign (v := (.int .i64 6)) rfl ?_)
    refine s_nil ?_
    refine t_norm (hK10 _ _ ?_)
    refine wp_ret ?_
    refine t_ret (c_ret1 Tryz.results50  (v := (.int .i64 6)) rfl ?_)
    have hH11 : Has E w8 [hL, [Hp.one mb (.map es c)], [Hp.one db (.cells #[(.pointer (some ⟨pb, 0, none⟩)), v, (.map (some mb))] 84 (0, 0))], [Hp.one pb (.cells #[(.bool (useS p).off), (.bool (useS p).armed), (.int .i64 (useS p).left), (.int .i64 (useS p).uses)] 78 (0, 0))], R] := (((((hH7.front 4 rfl).front 1 rfl).front 4 rfl).front 4 rfl).front 4 rfl).first 5 rfl
    exact ⟨_, _, _, by rw [syncE, if_neg (ne_true_of_eq_false h9_n)], by rw [syncA, if_neg (ne_true_of_eq_false h9_n)]; exact ho, by rw [syncO, if_neg (ne_true_of_eq_false h9_n)]; exact hm, hH11⟩
  · -- not: !(useB p)
    have h9_n : (useB p) = true := by simpa using h9
    refine wp_skip ?_
    refine t_norm (hK4 _ _ ?_)
    refine wp_seq_k fun K12 hK12 => ?_
    refine c_region ?_
    refine s_op (o_move (v := (.pointer (some ⟨db, 0, none⟩))) rfl ?_)
    refine s_op (o_move (v := (.pointer (some ⟨db, 0, none⟩))) rfl ?_)
    refine s_op (o_callf (vs := #[(.pointer (some ⟨db, 0, none⟩))]) ca78 rfl (args1 rfl) (loose_i (p := (useS p)) (la := la) (lo := lo) (((hH7.front 3 rfl).front 3 rfl).front 3 rfl).all4 ho hm hlo (by omega)) ?_)
    rintro _ w18 ⟨v13, s14, rfl, ho15, hX16⟩
    refine ⟨_, rfl, ?_⟩
    have hH17 : Has E w18 [s14, hL, [Hp.one mb (.map es c)], [Hp.one db (.cells #[(.pointer (some ⟨pb, 0, none⟩)), v, (.map (some mb))] 84 (0, 0))], [Hp.one pb (.cells #[(.bool (useS p).off), (.bool (useS p).armed), (.int .i64 (useS p).left), (.int .i64 (useS p).uses)] 78 (0, 0))], R] := hX16.of_all5
    refine s_op (o_callf (vs := #[(.pointer (some ⟨db, 0, none⟩)), v13]) ca54 rfl (args2 rfl rfl) (settle_i (p := (useS p)) (la := la) (lo := lo) ((((hH17.front 4 rfl).front 4 rfl).front 4 rfl).front 4 rfl).all4 ho hm hlo (keep := (keysS lo)) (ho15.sl.mono (seg_sub 0 rfl))) ?_)
    rintro _ w26 ⟨s19, es21, c22, rfl, ho20, hm23, hX24⟩
    refine ⟨_, rfl, ?_⟩
    have hH25 : Has E w26 [s19, [Hp.one mb (.map es21 c22)], [Hp.one db (.cells #[(.pointer (some ⟨pb, 0, none⟩)), v, (.map (some mb))] 84 (0, 0))], [Hp.one pb (.cells #[(.bool (useS p).off), (.bool (useS p).armed), (.int .i64 (useS p).left), (.int .i64 (useS p).uses)] 78 (0, 0))], s14, R] := hX24.of_all4
    refine s_nil ?_
    refine t_norm (hK12 _ _ ?_)
    refine wp_seq_k fun K27 hK27 => ?_
    refine c_region ?_
    refine s_op (o_assign (v := (.int .i64 0)) rfl ?_)
    refine s_nil ?_
    refine t_norm (hK27 _ _ ?_)
    refine wp_ret ?_
    refine c_ret1 Tryz.results50  (v := (.int .i64 0)) rfl ?_
    have hH28 : Has E w26 [s19, [Hp.one mb (.map es21 c22)], [Hp.one db (.cells #[(.pointer (some ⟨pb, 0, none⟩)), v, (.map (some mb))] 84 (0, 0))], [Hp.one pb (.cells #[(.bool (useS p).off), (.bool (useS p).armed), (.int .i64 (useS p).left), (.int .i64 (useS p).uses)] 78 (0, 0))], R] := (((((hH25.front 5 rfl).front 4 rfl).front 4 rfl).front 4 rfl).front 4 rfl).first 5 rfl
    exact ⟨_, _, _, by rw [syncE, if_pos h9_n], by rw [syncA, if_pos h9_n]; exact ho20, by rw [syncO, if_pos h9_n]; exact hm23, hH28⟩
set_option maxHeartbeats 4000000 in
theorem read_i {E w : World} {R hL : List Hp} {pb db mb c : Nat} {p : Pw} {v : Value} {es : Array MapEntry} {la : List Bs} {lo : List (Int × Bs)} (hH : Has E w [hL, [Hp.one mb (.map es c)], [Hp.one db (.cells #[(.pointer (some ⟨pb, 0, none⟩)), v, (.map (some mb))] 84 (0, 0))], [Hp.one pb (.cells #[(.bool p.off), (.bool p.armed), (.int .i64 p.left), (.int .i64 p.uses)] 78 (0, 0))], R]) (ho : Own 9 1 v la.length (la.map sV) hL) (hm : MapV iV sV es c lo) (n : Int) :
    Calls Tryz.prog 17 #[(.pointer (some ⟨db, 0, none⟩)), (.int .i64 n)] w fun e w' => e = .returned (.tuple #[S (readS p la lo n), .int .i64 (readE p la n)]) ∧ Has E w' [hL, [Hp.one mb (.map es c)], [Hp.one db (.cells #[(.pointer (some ⟨pb, 0, none⟩)), v, (.map (some mb))] 84 (0, 0))], [Hp.one pb (.cells #[(.bool p.off), (.bool p.armed), (.int .i64 p.left), (.int .i64 p.uses)] 78 (0, 0))], R] := by
  refine c_enter (args := [(.pointer (some ⟨db, 0, none⟩)), (.int .i64 n)]) Tryz.func17 rfl Tryz.ntmps17 (by simp) ?_
  refine wp_seq_k fun K1 hK1 => ?_
  refine c_region ?_
  refine s_op (o_assign (v := (S ([] : List UInt8))) rfl ?_)
  refine s_op (o_assign (v := (.int .i64 0)) rfl ?_)
  refine s_nil ?_
  refine t_norm (hK1 _ _ ?_)
  refine wp_seq_k fun K2 hK2 => ?_
  refine wp_block ?_
  refine wp_seq_k fun K3 hK3 => ?_
  refine c_region ?_
  refine s_op (o_move (v := (.pointer (some ⟨db, 0, none⟩))) rfl ?_)
  refine s_op (o_pnil (p := some _) Tryz.underlying34 rfl rfl ?_)
  refine s_op (o_assign (v := (.bool false)) rfl ?_)
  refine s_nil ?_
  refine t_norm (hK3 _ _ ?_)
  refine c_false rfl rfl ?_
  refine wp_seq_k fun K4 hK4 => ?_
  refine c_region ?_
  refine s_op (o_move (v := (.pointer (some ⟨db, 0, none⟩))) rfl ?_)
  refine s_op (o_callf (vs := #[(.pointer (some ⟨db, 0, none⟩))]) ca44 rfl (args1 rfl) (don_i (p := p) (la := la) (lo := lo) ((((hH.front 3 rfl).front 3 rfl).front 3 rfl).front 3 rfl).all4 ho hm ) ?_)
  rintro _ w7 ⟨rfl, hX5⟩
  refine ⟨_, rfl, ?_⟩
  have hH6 : Has E w7 [hL, [Hp.one mb (.map es c)], [Hp.one db (.cells #[(.pointer (some ⟨pb, 0, none⟩)), v, (.map (some mb))] 84 (0, 0))], [Hp.one pb (.cells #[(.bool p.off), (.bool p.armed), (.int .i64 p.left), (.int .i64 p.uses)] 78 (0, 0))], R] := hX5.of_all4
  refine s_op (o_not rfl ?_)
  refine s_op (o_assign (v := (.bool (!(!p.off)))) rfl ?_)
  refine s_nil ?_
  refine t_norm (hK4 _ _ ?_)
  refine c_condb rfl (fun h8 => ?_) (fun h8 => ?_)
  · -- !(!p.off)
    have h8_n : (!p.off) = false := by simpa using h8
    have h8_n_n : p.off = true := by simpa using h8_n
    refine wp_seq_k fun K9 hK9 => ?_
    refine c_region ?_
    refine s_op (o_assign (v := (S ([] : List UInt8))) rfl ?_)
    refine s_op (o_assign (v := (.int .i64 6)) rfl ?_)
    refine s_nil ?_
    refine t_norm (hK9 _ _ ?_)
    refine wp_ret ?_
    refine b_ret (t_ret (c_ret2 Tryz.results17  (v := (S ([] : List UInt8))) rfl (x := (.int .i64 6)) rfl ?_))
    have e1_ : readS p la lo n = ([] : List UInt8) := by rw [readS, if_pos h8_n_n]
    have e2_ : readE p la n = 6 := by rw [readE, if_pos h8_n_n]
    exact ⟨by rw [e1_, e2_], hH6⟩
  · -- not: !(!p.off)
    have h8_n : (!p.off) = true := by simpa using h8
    have h8_n_n : p.off = false := by simpa using h8_n
    refine wp_seq_k fun K10 hK10 => ?_
    refine c_region ?_
    refine s_op (o_move (v := (.pointer (some ⟨db, 0, none⟩))) rfl ?_)
    refine s_op (o_move (v := (.int .i64 n)) rfl ?_)
    refine s_op (o_callf (vs := #[(.pointer (some ⟨db, 0, none⟩)), (.int .i64 n)]) ca43 rfl (args2 rfl rfl) (has_i (p := p) (la := la) (lo := lo) ((((hH6.front 3 rfl).front 3 rfl).front 3 rfl).front 3 rfl).all4 ho hm n) ?_)
    rintro _ w13 ⟨rfl, hX11⟩
    refine ⟨_, rfl, ?_⟩
    have hH12 : Has E w13 [hL, [Hp.one mb (.map es c)], [Hp.one db (.cells #[(.pointer (some ⟨pb, 0, none⟩)), v, (.map (some mb))] 84 (0, 0))], [Hp.one pb (.cells #[(.bool p.off), (.bool p.armed), (.int .i64 p.left), (.int .i64 p.uses)] 78 (0, 0))], R] := hX11.of_all4
    refine s_op (o_not2 (b := decide (inS n la.length)) (b' := decide (¬ (inS n la.length))) rfl not_dec ?_)
    refine s_op (o_assign (v := (.bool (decide (¬ (inS n la.length))))) rfl ?_)
    refine s_nil ?_
    refine t_norm (hK10 _ _ ?_)
    refine c_cond rfl (fun h14 => ?_) (fun h14 => ?_)
    · -- ¬ (inS n la.length)
      refine wp_seq_k fun K15 hK15 => ?_
      refine c_region ?_
      refine s_op (o_assign (v := (S ([] : List UInt8))) rfl ?_)
      refine s_op (o_assign (v := (.int .i64 1)) rfl ?_)
      refine s_nil ?_
      refine t_norm (hK15 _ _ ?_)
      refine wp_ret ?_
      refine b_ret (t_ret (c_ret2 Tryz.results17  (v := (S ([] : List UInt8))) rfl (x := (.int .i64 1)) rfl ?_))
      have e1_ : readS p la lo n = ([] : List UInt8) := by rw [readS, if_neg (ne_true_of_eq_false h8_n_n), if_neg h14]
      have e2_ : readE p la n = 1 := by rw [readE, if_neg (ne_true_of_eq_false h8_n_n), if_neg h14]
      exact ⟨by rw [e1_, e2_], hH12⟩
    · -- not: ¬ (inS n la.length)
      have hin_ : inS n la.length := Classical.not_not.1 h14
      unfold inS at hin_
      refine wp_skip ?_
      refine b_norm ?_
      refine t_norm (hK2 _ _ ?_)
      refine wp_seq_k fun K16 hK16 => ?_
      refine wp_seq_k fun K17 hK17 => ?_
      refine c_region ?_
      refine s_op (o_move (v := (.pointer (some ⟨db, 0, none⟩))) rfl ?_)
      refine s_op (o_nilCheck rfl ?_)
      refine s_op (o_fieldAddr (k := 2) (fun _ => by kernel_rfl) rfl ?_)
      refine s_op (o_load1 (v := (.map (some mb))) Tryz.underlying82 rfl rfl hH12 (seg_sub 2 rfl) (CellsAt.one rfl) ?_)
      refine s_op (o_move (v := (.int .i64 n)) rfl ?_)
      refine s_op (o_lookupSk (L := [Hp.one mb (.map es c)]) (k := n) Tryz.underlying82 (key_int Tryz.underlying3) ti9 rfl rfl hH12 (seg_sub 1 rfl) rfl hm ?_)
      refine s_op (o_move (v := (.tuple #[(S ((getB lo n).getD [])), (.bool ((getB lo n).isSome))])) rfl ?_)
      refine s_op (o_extract (v := (S ((getB lo n).getD []))) rfl rfl ?_)
      refine s_op (o_extract (v := (.bool ((getB lo n).isSome))) rfl rfl ?_)
      refine s_op (o_assign (v := (S ((getB lo n).getD []))) rfl ?_)
      refine s_op (o_assign (v := (.bool ((getB lo n).isSome))) rfl ?_)
      refine s_nil ?_
      refine t_norm (hK17 _ _ ?_)
      refine wp_seq_k fun K18 hK18 => ?_
      refine c_region ?_
      refine s_op (o_move (v := (.bool ((getB lo n).isSome))) rfl ?_)
      refine s_nil ?_
      refine t_norm (hK18 _ _ ?_)
      refine c_condb rfl (fun h19 => ?_) (fun h19 => ?_)
      · -- (getB lo n).isSome
        refine wp_seq_k fun K20 hK20 => ?_
        refine c_region ?_
        refine s_op (o_move (v := (S ((getB lo n).getD []))) rfl ?_)
        refine s_op (o_assign (v := (S ((getB lo n).getD []))) rfl ?_)
        refine s_op (o_assign (v := (.int .i64 0)) rfl ?_)
        refine s_nil ?_
        refine t_norm (hK20 _ _ ?_)
        refine wp_ret ?_
        refine t_ret (c_ret2 Tryz.results17  (v := (S ((getB lo n).getD []))) rfl (x := (.int .i64 0)) rfl ?_)
        have e1_ : readS p la lo n = ((getB lo n).getD []) := by rw [readS, if_neg (ne_true_of_eq_false h8_n_n), if_pos (Classical.not_not.1 h14), if_pos h19]
        have e2_ : readE p la n = 0 := by rw [readE, if_neg (ne_true_of_eq_false h8_n_n), if_pos (Classical.not_not.1 h14)]
        exact ⟨by rw [e1_, e2_], hH12⟩
      · -- not: (getB lo n).isSome
        refine wp_skip ?_
        refine t_norm (hK16 _ _ ?_)
        refine wp_seq_k fun K21 hK21 => ?_
        refine c_region ?_
        refine s_op (o_move (v := (.pointer (some ⟨db, 0, none⟩))) rfl ?_)
        refine s_op (o_nilCheck rfl ?_)
        refine s_op (o_fieldAddr (k := 1) (fun _ => by kernel_rfl) rfl ?_)
        refine s_op (o_load1 (v := v) Tryz.underlying79 rfl rfl hH12 (seg_sub 2 rfl) (CellsAt.one rfl) ?_)
        refine s_op (o_move (v := (.int .i64 n)) rfl ?_)
        obtain ⟨x25, hx26⟩ : ∃ x_, la[(n).toNat]? = some x_ := get_some (by omega)
        refine s_op (o_index1 Tryz.underlying79 ti9 rfl ho.sl rfl (by omega) hx26 fun b22 o23 hc24 => ?_)
        refine s_op (o_load1 (v := (S x25)) Tryz.underlying9 rfl rfl hH12 (seg_sub 0 rfl) hc24 ?_)
        refine s_op (o_assign (v := (S x25)) rfl ?_)
        refine s_op (o_assign (v := (.int .i64 0)) rfl ?_)
        refine s_nil ?_
        refine t_norm (hK21 _ _ ?_)
        refine wp_ret ?_
        refine c_ret2 Tryz.results17  (v := (S x25)) rfl (x := (.int .i64 0)) rfl ?_
        have e1_ : readS p la lo n = x25 := by rw [readS, if_neg (ne_true_of_eq_false h8_n_n), if_pos (Classical.not_not.1 h14), if_neg (ne_true_of_eq_false h19)]; rw [hx26]; rfl
        have e2_ : readE p la n = 0 := by rw [readE, if_neg (ne_true_of_eq_false h8_n_n), if_pos (Classical.not_not.1 h14)]
        exact ⟨by rw [e1_, e2_], hH12⟩
set_option maxHeartbeats 4000000 in
theorem crash_i {E w : World} {R hL : List Hp} {pb db mb c : Nat} {p : Pw} {v : Value} {es : Array MapEntry} {la : List Bs} {lo : List (Int × Bs)} (hH : Has E w [hL, [Hp.one mb (.map es c)], [Hp.one db (.cells #[(.pointer (some ⟨pb, 0, none⟩)), v, (.map (some mb))] 84 (0, 0))], [Hp.one pb (.cells #[(.bool p.off), (.bool p.armed), (.int .i64 p.left), (.int .i64 p.uses)] 78 (0, 0))], R]) (ho : Own 9 1 v la.length (la.map sV) hL) (hm : MapV iV sV es c lo) (hlo : LoOk lo la.length) {vk : Value} {keep : List Int} (hk_ : Ints R vk keep) :
    Calls Tryz.prog 30 #[(.pointer (some ⟨db, 0, none⟩)), vk] w fun e w' => ∃ hL' es' c', e = .returned (.tuple #[]) ∧ Own 9 1 v (settleS lo la keep).length ((settleS lo la keep).map sV) hL' ∧ MapV iV sV es' c' ([] : List (Int × Bs)) ∧ Has E w' [hL', [Hp.one mb (.map es' c')], [Hp.one db (.cells #[(.pointer (some ⟨pb, 0, none⟩)), v, (.map (some mb))] 84 (0, 0))], [Hp.one pb (.cells #[(.bool (backS p).off), (.bool (backS p).armed), (.int .i64 (backS p).left), (.int .i64 (backS p).uses)] 78 (0, 0))], R] := by
  refine c_enter (args := [(.pointer (some ⟨db, 0, none⟩)), vk]) Tryz.func30 rfl Tryz.ntmps30 (by simp) ?_
  refine wp_seq_k fun K1 hK1 => ?_
  refine c_region ?_
  refine s_op (o_move (v := (.pointer (some ⟨db, 0, none⟩))) rfl ?_)
  refine s_op (o_pnnil (p := some _) Tryz.underlying34 rfl rfl ?_)
  refine s_nil ?_
  refine t_norm (hK1 _ _ ?_)
  refine c_true rfl rfl ?_
  refine wp_seq_k fun K2 hK2 => ?_
  refine c_region ?_
  refine s_op (o_move (v := (.pointer (some ⟨db, 0, none⟩))) rfl ?_)
  refine s_op (o_nilCheck rfl ?_)
  refine s_op (o_fieldAddr (k := 0) (fun _ => by kernel_rfl) rfl ?_)
  refine s_op (o_load1 (v := (.pointer (some ⟨pb, 0, none⟩))) Tryz.underlying76 rfl rfl hH (seg_sub 2 rfl) (CellsAt.one rfl) ?_)
  refine s_op (o_callf (vs := #[(.pointer (some ⟨pb, 0, none⟩))]) ca53 rfl (args1 rfl) (pback_c (p := p) (hH.front 3 rfl).all1) ?_)
  rintro _ w5 ⟨rfl, hX3⟩
  refine ⟨_, rfl, ?_⟩
  have hH4 : Has E w5 [[Hp.one pb (.cells #[(.bool (backS p).off), (.bool (backS p).armed), (.int .i64 (backS p).left), (.int .i64 (backS p).uses)] 78 (0, 0))], hL, [Hp.one mb (.map es c)], [Hp.one db (.cells #[(.pointer (some ⟨pb, 0, none⟩)), v, (.map (some mb))] 84 (0, 0))], R] := hX3.of_all1
  refine s_nil ?_
  refine t_norm (hK2 _ _ ?_)
  refine c_region ?_
  refine s_op (o_move (v := (.pointer (some ⟨db, 0, none⟩))) rfl ?_)
  refine s_op (o_move (v := vk) rfl ?_)
  refine s_op (o_callf (vs := #[(.pointer (some ⟨db, 0, none⟩)), vk]) ca54 rfl (args2 rfl rfl) (settle_i (p := (backS p)) (la := la) (lo := lo) (((hH4.front 3 rfl).front 3 rfl).front 3 rfl).all4 ho hm hlo (keep := keep) (hk_.mono (seg_sub 0 rfl))) ?_)
  rintro _ w13 ⟨s6, es8, c9, rfl, ho7, hm10, hX11⟩
  refine ⟨_, rfl, ?_⟩
  have hH12 : Has E w13 [s6, [Hp.one mb (.map es8 c9)], [Hp.one db (.cells #[(.pointer (some ⟨pb, 0, none⟩)), v, (.map (some mb))] 84 (0, 0))], [Hp.one pb (.cells #[(.bool (backS p).off), (.bool (backS p).armed), (.int .i64 (backS p).left), (.int .i64 (backS p).uses)] 78 (0, 0))], R] := hX11.of_all4
  refine s_nil ?_
  refine c_end0 Tryz.results30  ?_
  exact ⟨_, _, _, rfl, ho7, hm10, hH12⟩
set_option maxHeartbeats 4000000 in
theorem put_i {E w : World} {R hL : List Hp} {pb db mb c : Nat} {p : Pw} {v : Value} {es : Array MapEntry} {la : List Bs} {lo : List (Int × Bs)} (hH : Has E w [hL, [Hp.one mb (.map es c)], [Hp.one db (.cells #[(.pointer (some ⟨pb, 0, none⟩)), v, (.map (some mb))] 84 (0, 0))], [Hp.one pb (.cells #[(.bool p.off), (.bool p.armed), (.int .i64 p.left), (.int .i64 p.uses)] 78 (0, 0))], R]) (ho : Own 9 1 v la.length (la.map sV) hL) (hm : MapV iV sV es c lo) (n : Int) (s : Bs) (hs : s.length ≤ 1000000000) :
    Calls Tryz.prog 16 #[(.pointer (some ⟨db, 0, none⟩)), (.int .i64 n), (S s)] w fun e w' => ∃ hL' es' c', e = .returned (.int .i64 (putE la.length n s)) ∧ Own 9 1 v (putA la n s).length ((putA la n s).map sV) hL' ∧ MapV iV sV es' c' (putO la.length lo n s) ∧ Has E w' [hL', [Hp.one mb (.map es' c')], [Hp.one db (.cells #[(.pointer (some ⟨pb, 0, none⟩)), v, (.map (some mb))] 84 (0, 0))], [Hp.one pb (.cells #[(.bool p.off), (.bool p.armed), (.int .i64 p.left), (.int .i64 p.uses)] 78 (0, 0))], R] := by
  refine c_enter (args := [(.pointer (some ⟨db, 0, none⟩)), (.int .i64 n), (S s)]) Tryz.func16 rfl Tryz.ntmps16 (by simp) ?_
  refine wp_seq_k fun K1 hK1 => ?_
  refine c_region ?_
  refine s_op (o_assign (v := (.int .i64 0)) rfl ?_)
  refine s_nil ?_
  refine t_norm (hK1 _ _ ?_)
  refine wp_seq_k fun K2 hK2 => ?_
  refine c_region ?_
  refine s_op (o_move (v := (S s)) rfl ?_)
  refine s_op (o_buildSlice (ps := #[(0, (S s))]) (cells := #[(S s)]) Tryz.underlying79 ti9 (by decide) (parts1 rfl) (by kernel_rfl) hH fun b3 w4 hH5 => ?_)
  have hfl6 : ([s] : List Bs).flatten = s := by simp
  refine s_op (o_callf (vs := #[(.slice (some ⟨b3, 0, none⟩) 1 1)]) ca42 rfl (args1 rfl) ((by have h_ := filled_c hH5.all (l := [s]) ((sl_lit (f := sV) (l := [s]) rfl rfl (by simp)).mono (seg_sub 0 rfl)) (by simp) (by simp; omega); rwa [hfl6] at h_)) ?_)
  rintro _ w9 ⟨rfl, hX7⟩
  refine ⟨_, rfl, ?_⟩
  have hH8 := hX7.of_all
  refine s_op (o_move (v := (.tuple #[(S (if s.length ≤ 64 then fillS s else [])), (.bool (decide (s.length ≤ 64)))])) rfl ?_)
  refine s_op (o_extract (v := (S (if s.length ≤ 64 then fillS s else []))) rfl rfl ?_)
  refine s_op (o_extract (v := (.bool (decide (s.length ≤ 64)))) rfl rfl ?_)
  refine s_op (o_assign (v := (S (if s.length ≤ 64 then fillS s else []))) rfl ?_)
  refine s_op (o_assign (v := (.bool (decide (s.length ≤ 64)))) rfl ?_)
  refine s_nil ?_
  refine t_norm (hK2 _ _ ?_)
  refine wp_seq_k fun K10 hK10 => ?_
  refine wp_seq_k fun K11 hK11 => ?_
  refine c_region ?_
  refine s_op (o_move (v := (.bool (decide (s.length ≤ 64)))) rfl ?_)
  refine s_op (o_not2 (b := decide (s.length ≤ 64)) (b' := decide (¬ (s.length ≤ 64))) rfl not_dec ?_)
  refine s_op (o_move (v := (.bool (decide (¬ (s.length ≤ 64))))) rfl ?_)
  by_cases h12 : ¬ (s.length ≤ 64)
  · -- ¬ (s.length ≤ 64)
    refine s_off (b' := true) 17 rfl (congrArg Value.bool (decide_eq_true h12)) rfl ?_
    refine s_off (b' := true) 17 rfl (congrArg Value.bool (decide_eq_true h12)) rfl ?_
    refine s_off (b' := true) 17 rfl (congrArg Value.bool (decide_eq_true h12)) rfl ?_
    refine s_off (b' := true) 17 rfl (congrArg Value.bool (decide_eq_true h12)) rfl ?_
    refine s_op (o_pick_t (u := (.bool true)) ((rfl : _ = _).trans (congrArg Value.bool (decide_eq_true h12))) rfl ?_)
    refine s_nil ?_
    refine t_norm (hK11 _ _ ?_)
    refine c_true rfl rfl ?_
    refine wp_seq_k fun K13 hK13 => ?_
    refine c_region ?_
    refine s_op (o_assign (v := (.int .i64 1)) rfl ?_)
    refine s_nil ?_
    refine t_norm (hK13 _ _ ?_)
    refine wp_ret ?_
    refine t_ret (c_ret1 Tryz.results16  (v := (.int .i64 1)) rfl ?_)
    have hH14 : Has E w9 [hL, [Hp.one mb (.map es c)], [Hp.one db (.cells #[(.pointer (some ⟨pb, 0, none⟩)), v, (.map (some mb))] 84 (0, 0))], [Hp.one pb (.cells #[(.bool p.off), (.bool p.armed), (.int .i64 p.left), (.int .i64 p.uses)] 78 (0, 0))], R] := (((((hH8.front 5 rfl).front 5 rfl).front 5 rfl).front 5 rfl).front 5 rfl).first 5 rfl
    exact ⟨_, _, _, by rw [putE, if_neg (fun g => h12 g.1)], by rw [putA, if_neg (fun g => h12 g.1)]; exact ho, by rw [putO, if_neg (fun g => h12 g.1)]; exact hm, hH14⟩
  · -- not: ¬ (s.length ≤ 64)
    refine s_on 17 rfl (congrArg Value.bool (decide_eq_false h12)) (o_move (v := (.pointer (some ⟨db, 0, none⟩))) rfl ?_)
    refine s_on 17 rfl (congrArg Value.bool (decide_eq_false h12)) (o_move (v := (.int .i64 n)) rfl ?_)
    refine s_on 17 rfl (congrArg Value.bool (decide_eq_false h12)) (o_callf (vs := #[(.pointer (some ⟨db, 0, none⟩)), (.int .i64 n)]) ca43 rfl (args2 rfl rfl) (has_i (p := p) (la := la) (lo := lo) ((((hH8.front 4 rfl).front 4 rfl).front 4 rfl).front 4 rfl).all4 ho hm n) ?_)
    rintro _ w17 ⟨rfl, hX15⟩
    refine ⟨_, rfl, ?_⟩
    have hH16 : Has E w17 [hL, [Hp.one mb (.map es c)], [Hp.one db (.cells #[(.pointer (some ⟨pb, 0, none⟩)), v, (.map (some mb))] 84 (0, 0))], [Hp.one pb (.cells #[(.bool p.off), (.bool p.armed), (.int .i64 p.left), (.int .i64 p.uses)] 78 (0, 0))], [Hp.one b3 (.cells #[(S s)] 9 (0, 0))], R] := hX15.of_all4
    refine s_on 17 rfl (congrArg Value.bool (decide_eq_false h12)) (o_not2 (b := decide (inS n la.length)) (b' := decide (¬ (inS n la.length))) rfl not_dec ?_)
    refine s_op (o_pick_f (u := (.bool (decide (¬ (inS n la.length))))) ((rfl : _ = _).trans (congrArg Value.bool (decide_eq_false h12))) rfl ?_)
    refine s_nil ?_
    refine t_norm (hK11 _ _ ?_)
    refine c_cond rfl (fun h18 => ?_) (fun h18 => ?_)
    · -- ¬ (inS n la.length)
      refine wp_seq_k fun K19 hK19 => ?_
      refine c_region ?_
      refine s_op (o_assign (v := (.int .i64 1)) rfl ?_)
      refine s_nil ?_
      refine t_norm (hK19 _ _ ?_)
      refine wp_ret ?_
      refine t_ret (c_ret1 Tryz.results16  (v := (.int .i64 1)) rfl ?_)
      have hH20 : Has E w17 [hL, [Hp.one mb (.map es c)], [Hp.one db (.cells #[(.pointer (some ⟨pb, 0, none⟩)), v, (.map (some mb))] 84 (0, 0))], [Hp.one pb (.cells #[(.bool p.off), (.bool p.armed), (.int .i64 p.left), (.int .i64 p.uses)] 78 (0, 0))], R] := (((((hH16.front 5 rfl).front 4 rfl).front 4 rfl).front 4 rfl).front 4 rfl).first 5 rfl
      exact ⟨_, _, _, by rw [putE, if_neg (fun g => h18 g.2)], by rw [putA, if_neg (fun g => h18 g.2)]; exact ho, by rw [putO, if_neg (fun g => h18 g.2)]; exact hm, hH20⟩
    · -- not: ¬ (inS n la.length)
      have hin_ : inS n la.length := Classical.not_not.1 h18
      unfold inS at hin_
      refine wp_skip ?_
      refine t_norm (hK10 _ _ ?_)
      refine wp_seq_k fun K21 hK21 => ?_
      refine c_region ?_
      refine s_op (o_move (v := (.pointer (some ⟨db, 0, none⟩))) rfl ?_)
      refine s_op (o_nilCheck rfl ?_)
      refine s_op (o_fieldAddr (k := 1) (fun _ => by kernel_rfl) rfl ?_)
      refine s_op (o_load1 (v := v) Tryz.underlying79 rfl rfl hH16 (seg_sub 2 rfl) (CellsAt.one rfl) ?_)
      refine s_op (o_move (v := (.int .i64 n)) rfl ?_)
      refine s_op (o_move (v := (S (if s.length ≤ 64 then fillS s else []))) rfl ?_)
      refine s_op (o_ownAddr Tryz.underlying79 ti9 rfl ho rfl (by omega) (by first | omega | (simp only [List.length_append, List.length_cons, List.length_nil, List.length_set]; omega)) fun b22 ho23 => ?_)
      refine s_eff (o_ownStore (f := sV) (l := la) (a := (if s.length ≤ 64 then fillS s else [])) ti9 rfl rfl rfl ho23 (by first | omega | (simp only [List.length_append, List.length_cons, List.length_nil, List.length_set]; omega)) hH16 fun s24 w25 ho26 hH27 => ?_)
      refine s_nil ?_
      refine t_norm (hK21 _ _ ?_)
      refine wp_seq_k fun K28 hK28 => ?_
      refine c_region ?_
      refine s_op (o_move (v := (.pointer (some ⟨db, 0, none⟩))) rfl ?_)
      refine s_op (o_nilCheck rfl ?_)
      refine s_op (o_fieldAddr (k := 2) (fun _ => by kernel_rfl) rfl ?_)
      refine s_op (o_load1 (v := (.map (some mb))) Tryz.underlying82 rfl rfl hH27 (seg_sub 2 rfl) (CellsAt.one rfl) ?_)
      refine s_op (o_move (v := (.int .i64 n)) rfl ?_)
      refine s_eff (o_delete (gk := iV) (f := sV) (k := n) Tryz.underlying82 (key_int Tryz.underlying3) rfl rfl (hH27.front 1 rfl) hm fun es29 c30 w31 he32 hH33 => ?_)
      refine s_nil ?_
      refine t_norm (hK28 _ _ ?_)
      refine wp_seq_k fun K34 hK34 => ?_
      refine c_region ?_
      refine s_op (o_assign (v := (.int .i64 0)) rfl ?_)
      refine s_nil ?_
      refine t_norm (hK34 _ _ ?_)
      refine wp_ret ?_
      refine c_ret1 Tryz.results16  (v := (.int .i64 0)) rfl ?_
      have hH35 : Has E w31 [s24, [Hp.one mb (.map es29 c30)], [Hp.one db (.cells #[(.pointer (some ⟨pb, 0, none⟩)), v, (.map (some mb))] 84 (0, 0))], [Hp.one pb (.cells #[(.bool p.off), (.bool p.armed), (.int .i64 p.left), (.int .i64 p.uses)] 78 (0, 0))], R] := (((((hH33.front 5 rfl).front 4 rfl).front 4 rfl).front 3 rfl).front 4 rfl).first 5 rfl
      exact ⟨_, _, _, by rw [putE, if_pos ⟨(Classical.not_not.1 h12), (Classical.not_not.1 h18)⟩], by rw [putA, if_pos ⟨(Classical.not_not.1 h12), (Classical.not_not.1 h18)⟩]; rw [if_pos (Classical.not_not.1 h12)] at ho26; exact ho26, by rw [putO, if_pos ⟨(Classical.not_not.1 h12), (Classical.not_not.1 h18)⟩]; exact he32, hH35⟩
end Go.Q
namespace Go.Q
open Go.Proofs
set_option linter.unusedVariables false
set_option maxRecDepth 100000
attribute [local irreducible] wpList OK Code.wp
def DevAt (pb : Nat) (sg : List Hp) (db : Nat) (la : List Bs) (lo : List (Int × Bs)) : Prop := ∃ v hL mb es c, sg = hL ++ ([Hp.one mb (.map es c)] ++ [Hp.one db (.cells #[(.pointer (some ⟨pb, 0, none⟩)), v, (.map (some mb))] 84 (0, 0))]) ∧ Own 9 1 v la.length (la.map sV) hL ∧ MapV iV sV es c lo
theorem Has.close3' {E w : World} {x a b c : List Hp} {ss : List (List Hp)} (H : Has E w (x :: a :: b :: c :: ss)) : Has E w (x :: (a ++ (b ++ c)) :: ss) := by
  unfold Has at *; simpa [List.append_assoc] using H
theorem sectors_d {E w : World} {R sg : List Hp} {pb db : Nat} {p : Pw} {la : List Bs} {lo : List (Int × Bs)} (hH : Has E w [sg, [Hp.one pb (.cells #[(.bool p.off), (.bool p.armed), (.int .i64 p.left), (.int .i64 p.uses)] 78 (0, 0))], R]) (hd : DevAt pb sg db la lo) :
    Calls Tryz.prog 68 #[(.pointer (some ⟨db, 0, none⟩))] w fun e w' => e = .returned (.int .i64 ((la.length : Nat) : Int)) ∧ Has E w' [sg, [Hp.one pb (.cells #[(.bool p.off), (.bool p.armed), (.int .i64 p.left), (.int .i64 p.uses)] 78 (0, 0))], R] := by
  obtain ⟨v, hL, mb, es, c, rfl, ho, hm⟩ := hd
  exact (sectors_i hH.open3 ho hm ).mono fun e w' ⟨he, hH'⟩ => ⟨he, hH'.close3⟩
theorem don_d {E w : World} {R sg : List Hp} {pb db : Nat} {p : Pw} {la : List Bs} {lo : List (Int × Bs)} (hH : Has E w [sg, [Hp.one pb (.cells #[(.bool p.off), (.bool p.armed), (.int .i64 p.left), (.int .i64 p.uses)] 78 (0, 0))], R]) (hd : DevAt pb sg db la lo) :
    Calls Tryz.prog 44 #[(.pointer (some ⟨db, 0, none⟩))] w fun e w' => e = .returned (.bool (!p.off)) ∧ Has E w' [sg, [Hp.one pb (.cells #[(.bool p.off), (.bool p.armed), (.int .i64 p.left), (.int .i64 p.uses)] 78 (0, 0))], R] := by
  obtain ⟨v, hL, mb, es, c, rfl, ho, hm⟩ := hd
  exact (don_i hH.open3 ho hm ).mono fun e w' ⟨he, hH'⟩ => ⟨he, hH'.close3⟩
theorem duses_d {E w : World} {R sg : List Hp} {pb db : Nat} {p : Pw} {la : List Bs} {lo : List (Int × Bs)} (hH : Has E w [sg, [Hp.one pb (.cells #[(.bool p.off), (.bool p.armed), (.int .i64 p.left), (.int .i64 p.uses)] 78 (0, 0))], R]) (hd : DevAt pb sg db la lo) :
    Calls Tryz.prog 27 #[(.pointer (some ⟨db, 0, none⟩))] w fun e w' => e = .returned (.int .i64 p.uses) ∧ Has E w' [sg, [Hp.one pb (.cells #[(.bool p.off), (.bool p.armed), (.int .i64 p.left), (.int .i64 p.uses)] 78 (0, 0))], R] := by
  obtain ⟨v, hL, mb, es, c, rfl, ho, hm⟩ := hd
  exact (duses_i hH.open3 ho hm ).mono fun e w' ⟨he, hH'⟩ => ⟨he, hH'.close3⟩
theorem darm_d {E w : World} {R sg : List Hp} {pb db : Nat} {p : Pw} {la : List Bs} {lo : List (Int × Bs)} (hH : Has E w [sg, [Hp.one pb (.cells #[(.bool p.off), (.bool p.armed), (.int .i64 p.left), (.int .i64 p.uses)] 78 (0, 0))], R]) (hd : DevAt pb sg db la lo) (n : Int) :
    Calls Tryz.prog 29 #[(.pointer (some ⟨db, 0, none⟩)), (.int .i64 n)] w fun e w' => e = .returned (.tuple #[]) ∧ Has E w' [sg, [Hp.one pb (.cells #[(.bool (armS p n).off), (.bool (armS p n).armed), (.int .i64 (armS p n).left), (.int .i64 (armS p n).uses)] 78 (0, 0))], R] := by
  obtain ⟨v, hL, mb, es, c, rfl, ho, hm⟩ := hd
  exact (darm_i hH.open3 ho hm n).mono fun e w' ⟨he, hH'⟩ => ⟨he, hH'.close3⟩
theorem loose_d {E w : World} {R sg : List Hp} {pb db : Nat} {p : Pw} {la : List Bs} {lo : List (Int × Bs)} (hH : Has E w [sg, [Hp.one pb (.cells #[(.bool p.off), (.bool p.armed), (.int .i64 p.left), (.int .i64 p.uses)] 78 (0, 0))], R]) (hd : DevAt pb sg db la lo) (hlo : LoOk lo la.length) (hla : la.length ≤ 4096) :
    Calls Tryz.prog 78 #[(.pointer (some ⟨db, 0, none⟩))] w fun e w' => ∃ v' hs', e = .returned v' ∧ Own 3 1 v' (keysS lo).length ((keysS lo).map iV) hs' ∧ Has E w' [hs', sg, [Hp.one pb (.cells #[(.bool p.off), (.bool p.armed), (.int .i64 p.left), (.int .i64 p.uses)] 78 (0, 0))], R] := by
  obtain ⟨v, hL, mb, es, c, rfl, ho, hm⟩ := hd
  exact (loose_i hH.open3 ho hm hlo hla).mono fun e w' ⟨v', hs', he, ho', hH'⟩ => ⟨v', hs', he, ho', hH'.close3'⟩
theorem write_d {E w : World} {R sg : List Hp} {pb db : Nat} {p : Pw} {la : List Bs} {lo : List (Int × Bs)} (hH : Has E w [sg, [Hp.one pb (.cells #[(.bool p.off), (.bool p.armed), (.int .i64 p.left), (.int .i64 p.uses)] 78 (0, 0))], R]) (hd : DevAt pb sg db la lo) (hp : PwOk p) (hla : la.length ≤ 4096) (n : Int) {vd : Value} {l : List Bs} (hdd : Sl R 1 vd l.length (l.map sV)) (hn : l.length ≤ 1000000) (hl : l.flatten.length ≤ 1000000000) :
    Calls Tryz.prog 49 #[(.pointer (some ⟨db, 0, none⟩)), (.int .i64 n), vd] w fun e w' => ∃ sg', e = .returned (.int .i64 (writeE p la.length n l.flatten)) ∧ DevAt pb sg' db la (writeS p la.length lo n l.flatten) ∧ Has E w' [sg', [Hp.one pb (.cells #[(.bool (useS p).off), (.bool (useS p).armed), (.int .i64 (useS p).left), (.int .i64 (useS p).uses)] 78 (0, 0))], R] := by
  obtain ⟨v, hL, mb, es, c, rfl, ho, hm⟩ := hd
  exact (write_i hH.open3 ho hm hp hla n hdd hn hl).mono fun e w' ⟨es', c', he, hm', hH'⟩ => ⟨_, he, ⟨v, hL, mb, es', c', rfl, ho, hm'⟩, hH'.close3⟩
theorem sync_d {E w : World} {R sg : List Hp} {pb db : Nat} {p : Pw} {la : List Bs} {lo : List (Int × Bs)} (hH : Has E w [sg, [Hp.one pb (.cells #[(.bool p.off), (.bool p.armed), (.int .i64 p.left), (.int .i64 p.uses)] 78 (0, 0))], R]) (hd : DevAt pb sg db la lo) (hp : PwOk p) (hla : la.length ≤ 4096) (hlo : LoOk lo la.length) :
    Calls Tryz.prog 50 #[(.pointer (some ⟨db, 0, none⟩))] w fun e w' => ∃ sg', e = .returned (.int .i64 (syncE p)) ∧ DevAt pb sg' db (syncA p la lo) (syncO p lo) ∧ Has E w' [sg', [Hp.one pb (.cells #[(.bool (useS p).off), (.bool (useS p).armed), (.int .i64 (useS p).left), (.int .i64 (useS p).uses)] 78 (0, 0))], R] := by
  obtain ⟨v, hL, mb, es, c, rfl, ho, hm⟩ := hd
  exact (sync_i hH.open3 ho hm hp hla hlo).mono fun e w' ⟨hL', es', c', he, ho', hm', hH'⟩ => ⟨_, he, ⟨v, hL', mb, es', c', rfl, ho', hm'⟩, hH'.close3⟩
theorem crash_d {E w : World} {R sg : List Hp} {pb db : Nat} {p : Pw} {la : List Bs} {lo : List (Int × Bs)} (hH : Has E w [sg, [Hp.one pb (.cells #[(.bool p.off), (.bool p.armed), (.int .i64 p.left), (.int .i64 p.uses)] 78 (0, 0))], R]) (hd : DevAt pb sg db la lo) (hlo : LoOk lo la.length) {vk : Value} {keep : List Int} (hk_ : Ints R vk keep) :
    Calls Tryz.prog 30 #[(.pointer (some ⟨db, 0, none⟩)), vk] w fun e w' => ∃ sg', e = .returned (.tuple #[]) ∧ DevAt pb sg' db (settleS lo la keep) [] ∧ Has E w' [sg', [Hp.one pb (.cells #[(.bool (backS p).off), (.bool (backS p).armed), (.int .i64 (backS p).left), (.int .i64 (backS p).uses)] 78 (0, 0))], R] := by
  obtain ⟨v, hL, mb, es, c, rfl, ho, hm⟩ := hd
  exact (crash_i hH.open3 ho hm hlo hk_).mono fun e w' ⟨hL', es', c', he, ho', hm', hH'⟩ => ⟨_, he, ⟨v, hL', mb, es', c', rfl, ho', hm'⟩, hH'.close3⟩
theorem read_d {E w : World} {R sg : List Hp} {pb db : Nat} {p : Pw} {la : List Bs} {lo : List (Int × Bs)} (hH : Has E w [sg, [Hp.one pb (.cells #[(.bool p.off), (.bool p.armed), (.int .i64 p.left), (.int .i64 p.uses)] 78 (0, 0))], R]) (hd : DevAt pb sg db la lo) (n : Int) :
    Calls Tryz.prog 17 #[(.pointer (some ⟨db, 0, none⟩)), (.int .i64 n)] w fun e w' => e = .returned (.tuple #[S (readS p la lo n), .int .i64 (readE p la n)]) ∧ Has E w' [sg, [Hp.one pb (.cells #[(.bool p.off), (.bool p.armed), (.int .i64 p.left), (.int .i64 p.uses)] 78 (0, 0))], R] := by
  obtain ⟨v, hL, mb, es, c, rfl, ho, hm⟩ := hd
  exact (read_i hH.open3 ho hm n).mono fun e w' ⟨he, hH'⟩ => ⟨he, hH'.close3⟩
theorem put_d {E w : World} {R sg : List Hp} {pb db : Nat} {p : Pw} {la : List Bs} {lo : List (Int × Bs)} (hH : Has E w [sg, [Hp.one pb (.cells #[(.bool p.off), (.bool p.armed), (.int .i64 p.left), (.int .i64 p.uses)] 78 (0, 0))], R]) (hd : DevAt pb sg db la lo) (n : Int) (s : Bs) (hs : s.length ≤ 1000000000) :
    Calls Tryz.prog 16 #[(.pointer (some ⟨db, 0, none⟩)), (.int .i64 n), (S s)] w fun e w' => ∃ sg', e = .returned (.int .i64 (putE la.length n s)) ∧ DevAt pb sg' db (putA la n s) (putO la.length lo n s) ∧ Has E w' [sg', [Hp.one pb (.cells #[(.bool p.off), (.bool p.armed), (.int .i64 p.left), (.int .i64 p.uses)] 78 (0, 0))], R] := by
  obtain ⟨v, hL, mb, es, c, rfl, ho, hm⟩ := hd
  exact (put_i hH.open3 ho hm n s hs).mono fun e w' ⟨hL', es', c', he, ho', hm', hH'⟩ => ⟨_, he, ⟨v, hL', mb, es', c', rfl, ho', hm'⟩, hH'.close3⟩
set_option maxHeartbeats 4000000 in
theorem new_nil {E w : World} {R : List Hp} (hH : Has E w [R]) {n : Nat} (hn : 1 ≤ n ∧ n ≤ 4096) :
    Calls Tryz.prog 15 #[(.pointer none), (.int .i64 (n : Int))] w fun e w' => ∃ db pb sg, e = .returned (.pointer (some ⟨db, 0, none⟩)) ∧ DevAt pb sg db (List.replicate n blankS) [] ∧ Has E w' [sg, [Hp.one pb (.cells #[(.bool false), (.bool false), (.int .i64 0), (.int .i64 0)] 78 (0, 0))], R] := by
  refine c_enter (args := [(.pointer none), (.int .i64 (n : Int))]) Tryz.func15 rfl Tryz.ntmps15 (by simp) ?_
  refine wp_seq_k fun K1 hK1 => ?_
  refine c_region ?_
  refine s_op (o_assign (v := (.pointer none)) rfl ?_)
  refine s_nil ?_
  refine t_norm (hK1 _ _ ?_)
  refine wp_seq_k fun K2 hK2 => ?_
  refine wp_seq_k fun K3 hK3 => ?_
  refine c_region ?_
  refine s_op (o_move (v := (.int .i64 (n : Int))) rfl ?_)
  refine s_op (o_lss (a := (n : Int)) (b := 1) rfl rfl ?_)
  refine s_op (o_move (v := (.bool (decide ((n : Int) < 1)))) rfl ?_)
  by_cases h4 : (n : Int) < 1
  · -- (n : Int) < 1
    exfalso; omega
  · -- not: (n : Int) < 1
    refine s_on 7 rfl (congrArg Value.bool (decide_eq_false h4)) (o_move (v := (.int .i64 (n : Int))) rfl ?_)
    refine s_on 7 rfl (congrArg Value.bool (decide_eq_false h4)) (o_gtr (a := (n : Int)) (b := 4096) rfl rfl ?_)
    refine s_op (o_pick_f (u := (.bool (decide (4096 < (n : Int))))) ((rfl : _ = _).trans (congrArg Value.bool (decide_eq_false h4))) rfl ?_)
    refine s_nil ?_
    refine t_norm (hK3 _ _ ?_)
    refine c_cond rfl (fun h5 => ?_) (fun h5 => ?_)
    · -- 4096 < (n : Int)
      exfalso; omega
    · -- not: 4096 < (n : Int)
      refine wp_skip ?_
      refine t_norm (hK2 _ _ ?_)
      refine wp_seq_k fun K6 hK6 => ?_
      refine wp_seq_k fun K7 hK7 => ?_
      refine c_region ?_
      refine s_op (o_move (v := (.pointer none)) rfl ?_)
      refine s_op (o_pnil (p := none) Tryz.underlying76 rfl rfl ?_)
      refine s_nil ?_
      refine t_norm (hK7 _ _ ?_)
      refine c_true rfl rfl ?_
      refine c_region ?_
      refine s_op (o_sight (v := (.agg #[(.bool false), (.bool false), (.int .i64 0), (.int .i64 0)])) (fun _ => by kernel_rfl) ?_)
      refine s_op (o_box (cs := #[(.bool false), (.bool false), (.int .i64 0), (.int .i64 0)]) rfl rfl hH fun b8 w9 hH10 => ?_)
      refine s_op (o_assign (v := (.pointer (some ⟨b8, 0, none⟩))) rfl ?_)
      refine s_nil ?_
      refine t_norm (hK6 _ _ ?_)
      refine wp_seq_k fun K11 hK11 => ?_
      refine c_region ?_
      refine s_op (o_move (v := (.pointer (some ⟨b8, 0, none⟩))) rfl ?_)
      refine s_op (o_callf (vs := #[]) ca41 rfl (args0) (blank_c hH10.all) ?_)
      rintro _ w14 ⟨rfl, hX12⟩
      refine ⟨_, rfl, ?_⟩
      have hH13 := hX12.of_all
      refine s_op (o_buildSlice (ps := #[(0, (S blankS))]) (cells := #[(S blankS)]) Tryz.underlying79 ti9 (by decide) (parts1 rfl) (by kernel_rfl) hH13 fun b15 w16 hH17 => ?_)
      refine s_op (o_move (v := (.int .i64 (n : Int))) rfl ?_)
      refine s_op (o_callf (vs := #[(.slice (some ⟨b15, 0, none⟩) 1 1), (.int .i64 (n : Int))]) ca40 rfl (args2 rfl rfl) (srepeat_c hH17.all (s := blankS) ((sl_lit (f := sV) (l := [blankS]) rfl rfl (by simp)).mono (seg_sub 0 rfl)) (n := n) (by omega)) ?_)
      rintro _ w23 ⟨v18, s19, rfl, ho20, hX21⟩
      refine ⟨_, rfl, ?_⟩
      have hH22 : Has E w23 [s19, [Hp.one b15 (.cells #[(S blankS)] 9 (0, 0))], [Hp.one b8 (.cells #[(.bool false), (.bool false), (.int .i64 0), (.int .i64 0)] 78 (0, 0))], R] := hX21.of_all1
      obtain ⟨p_, c_, rfl⟩ := (Own.sl ho20).form
      refine s_op (o_makeMap hH22 fun m24 w25 hH26 => ?_)
      refine s_op (o_sight (v := (.agg #[(.pointer (some ⟨b8, 0, none⟩)), (.slice p_ (List.replicate n blankS).length c_), (.map (some m24))])) (fun _ => by kernel_rfl) ?_)
      refine s_op (o_box (cs := #[(.pointer (some ⟨b8, 0, none⟩)), (.slice p_ (List.replicate n blankS).length c_), (.map (some m24))]) rfl rfl hH26 fun b27 w28 hH29 => ?_)
      refine s_op (o_assign (v := (.pointer (some ⟨b27, 0, none⟩))) rfl ?_)
      refine s_nil ?_
      refine t_norm (hK11 _ _ ?_)
      refine wp_ret ?_
      refine c_ret1 Tryz.results15  (v := (.pointer (some ⟨b27, 0, none⟩))) rfl ?_
      have hH30 : Has E w28 [s19, [Hp.one m24 (.map #[] 0)], [Hp.one b27 (.cells #[(.pointer (some ⟨b8, 0, none⟩)), (.slice p_ (List.replicate n blankS).length c_), (.map (some m24))] 84 (0, 0))], [Hp.one b8 (.cells #[(.bool false), (.bool false), (.int .i64 0), (.int .i64 0)] 78 (0, 0))], R] := (((((hH29.front 5 rfl).front 5 rfl).front 2 rfl).front 3 rfl).front 4 rfl).first 5 rfl
      exact ⟨_, _, _, rfl, ⟨_, _, _, _, _, rfl, ho20, MapV.nil⟩, hH30.close3⟩
end Go.Q
