/-
  Parts of a walk: what functions of the program compute, each told by a theorem (QF6, QF7, QRng, QZ, QEBase, QETxG, QDel, QSets, QGraph, QFun, QOwnF, QRec, QSlh, QRet, QERc1, QERc2, QEq, QEEqR).
-/
import Derived.Test.YtcffibbdbalmjaaB1
import Derived.OrdersIn
import Derived.RangeFuncNested
import Derived.RangeFuncBound
import Derived.RangeFuncCalls
import Derived.RangeFuncLeaves
import Derived.RangeFuncBox
import Derived.Below
import Derived.Test.YtcffibbdbalmjaaProg
import Derived.Laws.StructEq
set_option linter.unusedVariables false
set_option linter.unusedSimpArgs false
namespace Go.Q
section
variable {P : Program} {ops : List Oper} {Q : Exit → Act → World → Prop}
/-- One operation, wanted or not. -/
def okOp (P : Program) (ops : List Oper) (i : Nat) (K : Act → World → Prop) (a : Act) (w : World) : Prop :=
  ∃ o, ops[i]? = some o ∧ ((Region.wanted o (yielded ops.toArray a.tmps) = true ∧ OK P o a.eval w fun v w' => K (a.put o.dst v) w') ∨ (Region.wanted o (yielded ops.toArray a.tmps) = false ∧ K (a.put o.dst undef) w))
theorem okOp.mono {i : Nat} {K K' : Act → World → Prop} {a : Act} {w : World} (h : okOp P ops i K a w) (hk : ∀ a w, K a w → K' a w) : okOp P ops i K' a w := by
  obtain ⟨o, ho, ⟨h1, h2⟩ | ⟨h1, h2⟩⟩ := h
  · exact ⟨o, ho, .inl ⟨h1, h2.mono fun v w' => hk _ _⟩⟩
  · exact ⟨o, ho, .inr ⟨h1, hk _ _ h2⟩⟩
theorem okOp.wp {i : Nat} {K : Act → World → Prop} {a : Act} {w : World} (h : okOp P ops i K a w) : wpOp P ops.toArray Q i K a w := by
  obtain ⟨o, ho, h⟩ := h
  unfold wpOp
  rw [show ops.toArray[i]? = some o by simpa using ho]
  rcases h with ⟨h1, h2⟩ | ⟨h1, h2⟩
  · simp only [h1, if_true]; exact .inl h2.wp
  · simp only [h1, Bool.false_eq_true, if_false]; exact h2
def allB (hi : Nat) (l : Array Bool) : Bool := (List.range hi).all fun i => l.getD i false
/-- All orders of the phase that ends ahead of hi, n operations are left; I holds all the way. -/
def anyI (P : Program) (ops : List Oper) (hi : Nat) (K : Act → World → Prop) (I : World → Prop) : Nat → Array Bool → Act → World → Prop
  | 0, l, a, w => I w ∧ allB hi l = true ∧ K a w
  | n + 1, l, a, w => I w ∧ allB hi l = false ∧ ∀ i ∈ Region.ready .any ops.toArray l, i < hi → okOp P ops i (anyI P ops hi K I n (l.setIfInBounds i true)) a w
theorem anyI.inv {hi : Nat} {K : Act → World → Prop} {I : World → Prop} : ∀ {n : Nat} {l : Array Bool} {a : Act} {w : World}, anyI P ops hi K I n l a w → I w
  | 0, _, _, _, h => h.1
  | _ + 1, _, _, _, h => h.1
/-- It gives this value wherever I holds, and changes nothing. -/
def YI (P : Program) (ops : List Oper) (o : Oper) (v : Value) (a : Act) (I : World → Prop) : Prop :=
  (Region.wanted o (yielded ops.toArray a.tmps) = true ∧ ∀ w, I w → OK P o a.eval w fun v' w' => v' = v ∧ w' = w) ∨ (Region.wanted o (yielded ops.toArray a.tmps) = false ∧ v = undef)
theorem OK.congr {o : Oper} {ρ ρ' : Operand → Value} {w : World} {K : Value → World → Prop} (h : execOp ρ' o = execOp ρ o) (k : OK P o ρ w K) : OK P o ρ' w K := by
  unfold OK at *; rw [h]; exact k
theorem YI.same {o : Oper} {v : Value} {a a' : Act} {I : World → Prop} (h : YI P ops o v a I) (he : execOp a'.eval o = execOp a.eval o) (hw : Region.wanted o (yielded ops.toArray a'.tmps) = Region.wanted o (yielded ops.toArray a.tmps)) : YI P ops o v a' I := by
  unfold YI at *
  rw [hw]
  exact h.imp (fun g => ⟨g.1, fun w hI => (g.2 w hI).congr he⟩) id
theorem YI.ok {i : Nat} {o : Oper} {v : Value} {a : Act} {I : World → Prop} {K : Act → World → Prop} {w : World} (hi : ops[i]? = some o) (h : YI P ops o v a I) (hI : I w) (hk : K (a.put o.dst v) w) : okOp P ops i K a w := by
  refine ⟨o, hi, ?_⟩
  rcases h with ⟨h1, h2⟩ | ⟨h1, rfl⟩
  · exact .inl ⟨h1, (h2 w hI).mono fun v' w' ⟨e1, e2⟩ => by rw [e1, e2]; exact hk⟩
  · exact .inr ⟨h1, hk⟩
theorem okOp_put {j : Nat} {oi oj : Oper} {v : Value} {I : World → Prop} (hj : ops[j]? = some oj) (hap : oi.apart ops.toArray oj = true) (hsi : ∀ cs b, oi.op ≠ .select cs b) (hsj : ∀ cs b, oj.op ≠ .select cs b)
    {K : Act → World → Prop} {a : Act} {w : World} (hy : YI P ops oi v a I) (h : okOp P ops j K (a.put oi.dst v) w) : okOp P ops j (fun a' w' => YI P ops oi v a' I ∧ K (a'.put oi.dst v) w') a w := by
  obtain ⟨h1, h2, h3⟩ := Oper.apart_spec hap
  have keep : ∀ u, YI P ops oi v (a.put oj.dst u) I := fun u => hy.same (execOp_put oi hsi a oj.dst u h3) (wanted_put oi a oj.dst u h3)
  obtain ⟨o, ho, h⟩ := h
  obtain rfl : o = oj := Option.some.inj (ho.symm.trans hj)
  refine ⟨o, ho, ?_⟩
  rw [wanted_put o a oi.dst v h1] at h
  rcases h with ⟨g1, g2⟩ | ⟨g1, g2⟩
  · refine .inl ⟨g1, OK.congr (execOp_put o hsj a oi.dst v h1).symm (g2.mono fun u w' hk => ⟨keep u, ?_⟩)⟩
    rw [← Act.put_comm a v u h2]; exact hk
  · refine .inr ⟨g1, keep _, ?_⟩
    rw [← Act.put_comm a v undef h2]; exact g2
theorem ready_un {i : Nat} {l : Array Bool} (h : i ∈ Region.ready .any ops.toArray l) : l.getD i false = false ∧ i < l.size := by
  have h0 := (mem_ready.1 h).1
  rcases Nat.lt_or_ge i l.size with g | g
  · refine ⟨?_, g⟩
    simp [g] at h0 ⊢; exact h0
  · simp [Array.getElem?_eq_none g] at h0
theorem allB_un {hi i : Nat} {l : Array Bool} (h : l.getD i false = false) (hlt : i < hi) : allB hi l = false := by
  cases e : allB hi l with
  | false => rfl
  | true =>
    unfold allB at e
    rw [List.all_eq_true] at e
    have := e i (List.mem_range.2 hlt)
    rw [h] at this; cases this
theorem anyI_first {hi i : Nat} {oi : Oper} {v : Value} {K : Act → World → Prop} {I : World → Prop} (hoi : ops[i]? = some oi) (hlt : i < hi) (hsel : ∀ (j : Nat) (o : Oper) cs b, ops[j]? = some o → o.op ≠ .select cs b) :
    ∀ (n : Nat) (l : Array Bool) (a : Act) (w : World),
      (∀ j oj, ops[j]? = some oj → j ≠ i → l.getD j true = false → (∀ e ∈ oj.after, Region.binds .any e = true → e.on ≠ i) → oi.apart ops.toArray oj = true) →
      i ∈ Region.ready .any ops.toArray l → YI P ops oi v a I → anyI P ops hi K I n (l.setIfInBounds i true) (a.put oi.dst v) w → anyI P ops hi K I (n + 1) l a w := by
  intro n
  induction n with
  | zero =>
    intro l a w _ hr hy H
    have hu := ready_un hr
    refine ⟨H.inv, allB_un hu.1 hlt, fun j hj hjh => ?_⟩
    by_cases hji : j = i
    · subst hji; exact hy.ok hoi H.inv H
    · have h2 := ready_un (ready_mono hj hji)
      have := allB_un h2.1 hjh
      rw [H.2.1] at this; cases this
  | succ n ih =>
    intro l a w hfree hr hy H
    have hu := ready_un hr
    refine ⟨H.inv, allB_un hu.1 hlt, fun j hj hjh => ?_⟩
    by_cases hji : j = i
    · subst hji; exact hy.ok hoi H.inv H
    · have h1 := H.2.2 j (ready_mono hj hji) hjh
      obtain ⟨hjun, oj, hoj, hall⟩ := mem_ready.1 hj
      have hoj' : ops[j]? = some oj := by simpa using hoj
      have hnot : ∀ e ∈ oj.after, Region.binds .any e = true → e.on ≠ i := fun e he hb heq => by
        have h1 := hall e he hb
        rw [heq, hu.1] at h1; cases h1
      have h2 := okOp_put hoj' (hfree j oj hoj' hji hjun hnot) (fun cs b => hsel i oi cs b hoi) (fun cs b => hsel j oj cs b hoj') hy h1
      have hfree' : ∀ k ok, ops[k]? = some ok → k ≠ i → (l.setIfInBounds j true).getD k true = false → (∀ e ∈ ok.after, Region.binds .any e = true → e.on ≠ i) → oi.apart ops.toArray ok = true := fun k ok hk hki hun hno => by
        refine hfree k ok hk hki ?_ hno
        by_cases hjk : j = k
        · subst hjk; exact hjun
        · rw [getD_set_ne true hjk] at hun; exact hun
      refine h2.mono fun a' w' h3 => ih (l.setIfInBounds j true) a' w' hfree' (ready_mono hr (Ne.symm hji)) h3.1 ?_
      rw [Array.setIfInBounds_comm _ _ hji]
      exact h3.2
theorem anyI_wp {hi : Nat} {I : World → Prop} (hok : flowOk3 ops = true) (hbar : barB ops hi = true) (hhi : hi ≤ ops.length) : ∀ (n fuel : Nat) (l : Array Bool) (a : Act) (w : World), l.size = ops.length → (∀ i, hi ≤ i → l.getD i false = false) →
    (∀ i, l.getD i false = true → ∀ d ∈ depsOf ops i, l.getD d false = true) → n + (ops.length - hi) ≤ fuel → anyI P ops hi (Rest P Q ops hi) I n l a w → wpAny P .any ops.toArray Q fuel l a w
  | 0, fuel, l, a, w, hsz, hnot, _, hf, h => by
    refine h.2.2 hok fuel l hsz (fun i hi' => ?_) hnot (by omega)
    have := h.2.1
    unfold allB at this
    rw [List.all_eq_true] at this
    exact this i (List.mem_range.2 hi')
  | n + 1, fuel, l, a, w, hsz, hnot, hcl, hf, h => by
    obtain ⟨f, rfl⟩ : ∃ f, fuel = f + 1 := ⟨fuel - 1, by omega⟩
    obtain ⟨_, hall, hr⟩ := h
    obtain ⟨m, hm, hum, hmin⟩ : ∃ m, m < hi ∧ l.getD m false = false ∧ ∀ j, j < m → l.getD j false = true := by
      unfold allB at hall
      rw [List.all_eq_false] at hall
      obtain ⟨x, hx, hxu⟩ := hall
      have hx' : x < hi := List.mem_range.1 hx
      have hxu' : l.getD x false = false := by simpa using hxu
      clear hxu hx
      induction x using Nat.strongRecOn with
      | ind x ih =>
        by_cases g : ∃ j, j < x ∧ l.getD j false = false
        · obtain ⟨j, hj, hju⟩ := g; exact ih j hj (by omega) hju
        · exact ⟨x, hx', hxu', fun j hj => by
            cases e : l.getD j false with
            | true => rfl
            | false => exact absurd ⟨j, hj, e⟩ g⟩
    have hml : m < ops.length := by omega
    have hmr : m ∈ Region.ready .any ops.toArray l := by
      refine mem_ready.2 ⟨?_, ops[m], by simp [hml], fun e he hb => ?_⟩
      · have hs : m < l.size := by omega
        simp [hs] at hum ⊢; exact hum
      · have hd := mem_depsOf (List.getElem?_eq_getElem hml) he hb
        exact hmin _ ((flowOk3_spec hok (List.getElem?_eq_getElem hml)).1 _ hd)
    refine ⟨fun g => (by rw [g] at hmr; cases hmr), fun i hi' => ?_⟩
    obtain ⟨hiu, his⟩ := ready_un hi'
    obtain ⟨_, o, ho, hdone⟩ := mem_ready.1 hi'
    have ho' : ops[i]? = some o := by simpa using ho
    have hdeps : ∀ d ∈ depsOf ops i, l.getD d false = true := by
      intro d hd
      unfold depsOf at hd
      rw [ho'] at hd
      obtain ⟨e, he, heq⟩ := List.mem_filterMap.1 hd
      split at heq
      · cases heq; exact hdone e (by simpa using he) (by assumption)
      · cases heq
    have hih : i < hi := by
      rcases Nat.lt_or_ge i hi with g | g
      · exact g
      · have := anc_trans3 hok hcl _ i m (barB_spec hbar i m g (by omega) hm) hdeps
        rw [hum] at this; cases this
    refine wpOp_mono ?_ (hr i hi' hih).wp
    intro a' w' h'
    refine anyI_wp hok hbar hhi n f _ a' w' (by simpa using hsz) (fun j hj => ?_) (fun j hj d hd => ?_) (by omega) h'
    · rw [getD_set_ne false (show i ≠ j by omega)]; exact hnot j hj
    · by_cases e : i = j
      · subst e; exact getD_set_true (hdeps d hd)
      · rw [getD_set_ne false e] at hj; exact getD_set_true (hcl j hj d hd)
def prefB (lo n : Nat) : Array Bool := (List.replicate lo true ++ List.replicate (n - lo) false).toArray
def freeB (ops : List Oper) (hi : Nat) (l : Array Bool) (k : Nat) : Bool := Region.noSelect ops.toArray && Region.free .any ops.toArray l k && (Region.ready .any ops.toArray l).contains k && decide (k < hi)
def onlyB (ops : List Oper) (hi : Nat) (l : Array Bool) (k : Nat) : Bool := (Region.ready .any ops.toArray l).all (fun i => i == k || decide (hi ≤ i)) && (Region.ready .any ops.toArray l).contains k && decide (k < hi)
theorem Rest.phaseA {N : Nat} {r : Nat → Value} {w : World} (I : World → Prop) (lo hi m : Nat) (hm : lo + m = hi) (hhi : decide (hi ≤ ops.length) = true) (hbar : barB ops hi = true)
    (h : anyI P ops hi (Rest P Q ops hi) I m (prefB lo ops.length) (Go.Q.fr N r) w) : Rest P Q ops lo (Go.Q.fr N r) w := by
  intro hok fuel listed hsz hall hnot hf
  have hhi := of_decide_eq_true hhi
  have e : listed = prefB lo ops.length := by
    unfold prefB
    apply Array.ext
    · simp [hsz]; omega
    · intro i h1 h2
      rcases Nat.lt_or_ge i lo with g | g
      · have := hall i g
        simp [h1] at this
        rw [this]; simp [List.getElem_append, g]
      · have := hnot i g
        simp [h1] at this
        rw [this]; simp [List.getElem_append, Nat.not_lt.2 g]
  subst e
  refine anyI_wp hok hbar hhi m fuel _ _ w hsz (fun i hi' => hnot i (by omega)) (fun i hi' d hd => ?_) (by omega) h
  have hil : i < lo := by
    rcases Nat.lt_or_ge i lo with g | g
    · exact g
    · rw [hnot i g] at hi'; cases hi'
  have := (flowOk3_spec hok (List.getElem?_eq_getElem (show i < ops.length by omega))).1 d hd
  exact hall d (by omega)
section
variable {hi : Nat} {K : Act → World → Prop} {I : World → Prop} {N n : Nat} {l : Array Bool} {r : Nat → Value} {w : World}
theorem a_done {a : Act} (h : allB hi l = true) (hI : I w) (hk : K a w) : anyI P ops hi K I 0 l a w := ⟨hI, h, hk⟩
theorem freeB_spec {k : Nat} (h : freeB ops hi l k = true) : Region.noSelect ops.toArray = true ∧ Region.free .any ops.toArray l k = true ∧ k ∈ Region.ready .any ops.toArray l ∧ k < hi := by
  unfold freeB at h
  simp only [Bool.and_eq_true, decide_eq_true_eq, List.contains_iff_mem] at h
  exact ⟨h.1.1.1, h.1.1.2, h.1.2, h.2⟩
theorem onlyB_spec {k : Nat} (h : onlyB ops hi l k = true) : (∀ i ∈ Region.ready .any ops.toArray l, i < hi → i = k) ∧ k ∈ Region.ready .any ops.toArray l ∧ k < hi := by
  unfold onlyB at h
  simp only [Bool.and_eq_true, decide_eq_true_eq, List.contains_iff_mem, List.all_eq_true, Bool.or_eq_true, beq_iff_eq] at h
  exact ⟨fun i hi' hlt => (h.1.1 i hi').elim id fun g => by omega, h.1.2, h.2⟩
theorem a_first {k : Nat} {o : Oper} {v : Value} {a : Act} (ho : ops[k]? = some o) (hf : freeB ops hi l k = true) (hy : YI P ops o v a I) (h : anyI P ops hi K I n (l.setIfInBounds k true) (a.put o.dst v) w) : anyI P ops hi K I (n + 1) l a w := by
  obtain ⟨h1, h2, h3, h4⟩ := freeB_spec hf
  have ho' : ops.toArray[k]? = some o := by simpa using ho
  exact anyI_first ho h4 (fun j o cs b hj => Region.noSelect_spec h1 j o cs b (by simpa using hj)) n l a w (fun j oj hj => Region.free_spec ho' h2 j oj (by simpa using hj)) h3 hy h
theorem a_op {d : Nat} {op : Op} {T : TypeId} {pos : String} {after : Array Edge} {v : Value} (k : Nat) (ho : ops[k]? = some ⟨some d, op, T, pos, after, none⟩) (hf : freeB ops hi l k = true)
    (hv : ∀ w', I w' → OK P ⟨some d, op, T, pos, after, none⟩ (ev N r) w' fun v' w'' => v' = v ∧ w'' = w') (h : anyI P ops hi K I n (l.setIfInBounds k true) (Go.Q.fr N (upd r d v)) w) : anyI P ops hi K I (n + 1) l (Go.Q.fr N r) w := by
  refine a_first ho hf (.inl ⟨by simp [Region.wanted], fun w' hI => ?_⟩) (v := v) (by rw [fr_put]; exact h)
  rw [fr_eval]; exact hv w' hI
theorem a_on {d : Nat} {op : Op} {T : TypeId} {pos : String} {after : Array Edge} {g : Nat} {b : Bool} {v : Value} (k : Nat) (ho : ops[k]? = some ⟨some d, op, T, pos, after, some (g, b)⟩) (hf : freeB ops hi l k = true) (t : Nat) (hgt : dstOf ops g = some t) (hg : ev N r (.tmp t) = .bool b)
    (hv : ∀ w', I w' → OK P ⟨some d, op, T, pos, after, some (g, b)⟩ (ev N r) w' fun v' w'' => v' = v ∧ w'' = w') (h : anyI P ops hi K I n (l.setIfInBounds k true) (Go.Q.fr N (upd r d v)) w) : anyI P ops hi K I (n + 1) l (Go.Q.fr N r) w := by
  refine a_first ho hf (.inl ⟨?_, fun w' hI => ?_⟩) (v := v) (by rw [fr_put]; exact h)
  · obtain ⟨og, h1, h2⟩ := dstOf_spec ops g hgt
    rw [wanted_fr h1 h2 hg]; simp
  · rw [fr_eval]; exact hv w' hI
theorem a_off {d : Nat} {op : Op} {T : TypeId} {pos : String} {after : Array Edge} {g : Nat} {b b' : Bool} (k : Nat) (ho : ops[k]? = some ⟨some d, op, T, pos, after, some (g, b)⟩) (hf : freeB ops hi l k = true) (t : Nat) (hgt : dstOf ops g = some t) (hg : ev N r (.tmp t) = .bool b') (hne : (b' == b) = false)
    (h : anyI P ops hi K I n (l.setIfInBounds k true) (Go.Q.fr N (upd r d undef)) w) : anyI P ops hi K I (n + 1) l (Go.Q.fr N r) w := by
  refine a_first ho hf (.inr ⟨?_, rfl⟩) (by rw [fr_put]; exact h)
  obtain ⟨og, h1, h2⟩ := dstOf_spec ops g hgt
  rw [wanted_fr h1 h2 hg, hne]
theorem a_offu {d : Nat} {op : Op} {T : TypeId} {pos : String} {after : Array Edge} {g : Nat} {b : Bool} (k : Nat) (ho : ops[k]? = some ⟨some d, op, T, pos, after, some (g, b)⟩) (hf : freeB ops hi l k = true) (t : Nat) (hgt : dstOf ops g = some t) (hg : ev N r (.tmp t) = undef)
    (h : anyI P ops hi K I n (l.setIfInBounds k true) (Go.Q.fr N (upd r d undef)) w) : anyI P ops hi K I (n + 1) l (Go.Q.fr N r) w := by
  refine a_first ho hf (.inr ⟨?_, rfl⟩) (by rw [fr_put]; exact h)
  obtain ⟨og, h1, h2⟩ := dstOf_spec ops g hgt
  have hy : yielded ops.toArray (Go.Q.fr N r).tmps g = none := by
    simp only [yielded, show ops.toArray[g]? = some og by simpa using h1, h2, Option.bind_some, fr_at]
    by_cases h : t < N
    · have hb : Nat.blt t N = true := by simpa using h
      simp only [ev, hb] at hg
      have hv' : r t = undef := hg
      rw [if_pos h, hv']; rfl
    · rw [if_neg h]
  simp [Region.wanted, hy]
theorem a_only {k : Nat} {o : Oper} {a : Act} (ho : ops[k]? = some o) (hr : onlyB ops hi l k = true) (hI : I w) (h : okOp P ops k (anyI P ops hi K I n (l.setIfInBounds k true)) a w) : anyI P ops hi K I (n + 1) l a w := by
  obtain ⟨h1, h2, h3⟩ := onlyB_spec hr
  exact ⟨hI, allB_un (ready_un h2).1 h3, fun i hi' hlt => by rw [h1 i hi' hlt]; exact h⟩
theorem a_w {d : Nat} {op : Op} {T : TypeId} {pos : String} {after : Array Edge} (k : Nat) (ho : ops[k]? = some ⟨some d, op, T, pos, after, none⟩) (hr : onlyB ops hi l k = true) (hI : I w)
    (h : OK P ⟨some d, op, T, pos, after, none⟩ (ev N r) w fun v w' => anyI P ops hi K I n (l.setIfInBounds k true) (Go.Q.fr N (upd r d v)) w') : anyI P ops hi K I (n + 1) l (Go.Q.fr N r) w := by
  refine a_only ho hr hI ⟨_, ho, .inl ⟨by simp [Region.wanted], ?_⟩⟩
  rw [fr_eval]; exact h.mono fun v w' hh => by rw [fr_put]; exact hh
theorem a_we {op : Op} {T : TypeId} {pos : String} {after : Array Edge} (k : Nat) (ho : ops[k]? = some ⟨none, op, T, pos, after, none⟩) (hr : onlyB ops hi l k = true) (hI : I w)
    (h : OK P ⟨none, op, T, pos, after, none⟩ (ev N r) w fun _ w' => anyI P ops hi K I n (l.setIfInBounds k true) (Go.Q.fr N r) w') : anyI P ops hi K I (n + 1) l (Go.Q.fr N r) w := by
  refine a_only ho hr hI ⟨_, ho, .inl ⟨by simp [Region.wanted], ?_⟩⟩
  rw [fr_eval]; exact h
theorem a_won {d : Nat} {op : Op} {T : TypeId} {pos : String} {after : Array Edge} {g : Nat} {b : Bool} (k : Nat) (ho : ops[k]? = some ⟨some d, op, T, pos, after, some (g, b)⟩) (hr : onlyB ops hi l k = true) (hI : I w) (t : Nat) (hgt : dstOf ops g = some t) (hg : ev N r (.tmp t) = .bool b)
    (h : OK P ⟨some d, op, T, pos, after, some (g, b)⟩ (ev N r) w fun v w' => anyI P ops hi K I n (l.setIfInBounds k true) (Go.Q.fr N (upd r d v)) w') : anyI P ops hi K I (n + 1) l (Go.Q.fr N r) w := by
  refine a_only ho hr hI ⟨_, ho, .inl ⟨?_, ?_⟩⟩
  · obtain ⟨og, h1, h2⟩ := dstOf_spec ops g hgt
    rw [wanted_fr h1 h2 hg]; simp
  · rw [fr_eval]; exact h.mono fun v w' hh => by rw [fr_put]; exact hh
def twoB (ops : List Oper) (hi : Nat) (l : Array Bool) (k k2 : Nat) : Bool := (Region.ready .any ops.toArray l).all (fun i => i == k || i == k2 || decide (hi ≤ i)) && (Region.ready .any ops.toArray l).contains k && decide (k < hi)
/-- Two that change the world are ready: whichever comes first. -/
theorem a_two {a : Act} (k k2 : Nat) (hr : twoB ops hi l k k2 = true) (hI : I w) (h1 : okOp P ops k (anyI P ops hi K I n (l.setIfInBounds k true)) a w) (h2 : okOp P ops k2 (anyI P ops hi K I n (l.setIfInBounds k2 true)) a w) : anyI P ops hi K I (n + 1) l a w := by
  unfold twoB at hr
  simp only [Bool.and_eq_true, decide_eq_true_eq, List.contains_iff_mem, List.all_eq_true, Bool.or_eq_true, beq_iff_eq] at hr
  refine ⟨hI, allB_un (ready_un hr.1.2).1 hr.2, fun i hi' hlt => ?_⟩
  rcases hr.1.1 i hi' with (e | e) | e
  · rw [e]; exact h1
  · rw [e]; exact h2
  · omega
theorem ok_w {K : Act → World → Prop} {d : Nat} {op : Op} {T : TypeId} {pos : String} {after : Array Edge} (k : Nat) (ho : ops[k]? = some ⟨some d, op, T, pos, after, none⟩)
    (h : OK P ⟨some d, op, T, pos, after, none⟩ (ev N r) w fun v w' => K (Go.Q.fr N (upd r d v)) w') : okOp P ops k K (Go.Q.fr N r) w := by
  refine ⟨_, ho, .inl ⟨by simp [Region.wanted], ?_⟩⟩
  rw [fr_eval]; exact h.mono fun v w' hh => by rw [fr_put]; exact hh
theorem ok_we {K : Act → World → Prop} {op : Op} {T : TypeId} {pos : String} {after : Array Edge} (k : Nat) (ho : ops[k]? = some ⟨none, op, T, pos, after, none⟩)
    (h : OK P ⟨none, op, T, pos, after, none⟩ (ev N r) w fun _ w' => K (Go.Q.fr N r) w') : okOp P ops k K (Go.Q.fr N r) w := by
  refine ⟨_, ho, .inl ⟨by simp [Region.wanted], ?_⟩⟩
  rw [fr_eval]; exact h
theorem ok_won {K : Act → World → Prop} {d : Nat} {op : Op} {T : TypeId} {pos : String} {after : Array Edge} {g : Nat} {b : Bool} (k : Nat) (ho : ops[k]? = some ⟨some d, op, T, pos, after, some (g, b)⟩) (t : Nat) (hgt : dstOf ops g = some t) (hg : ev N r (.tmp t) = .bool b)
    (h : OK P ⟨some d, op, T, pos, after, some (g, b)⟩ (ev N r) w fun v w' => K (Go.Q.fr N (upd r d v)) w') : okOp P ops k K (Go.Q.fr N r) w := by
  refine ⟨_, ho, .inl ⟨?_, ?_⟩⟩
  · obtain ⟨og, h1, h2⟩ := dstOf_spec ops g hgt
    rw [wanted_fr h1 h2 hg]; simp
  · rw [fr_eval]; exact h.mono fun v w' hh => by rw [fr_put]; exact hh
end
/-- An element's address, told once. -/
theorem ix_ex1 {α : Type} {f : α → Value} {ls : List α} {a : α} {t e : TypeId} {L : List Hp} {by_ : Nat} {v z : Value} {i : Int} (ht : P.underlying t = some (.slice e)) (hi : TI P e z 1 by_)
    (hs : Sl L 1 v ls.length (ls.map f)) (h0 : 0 ≤ i) (ha : ls[i.toNat]? = some a) : ∃ b off, CellsAt L b off [f a] ∧ ∀ {ρ : Operand → Value} {dst : Option Tmp} {T : TypeId} {pos : String} {after : Array Edge} {g : Option (Nat × Bool)} {x y : Operand} {k : IntKind} {w : World} {K : Value → World → Prop},
      ρ x = v → ρ y = .int k i → K (.pointer (some ⟨b, off, none⟩)) w → OK P ⟨dst, .indexAddr t x y, T, pos, after, g⟩ ρ w K := by
  have hi' : i.toNat < ls.length := (List.getElem?_eq_some_iff.1 ha).1
  obtain ⟨p, cap, rfl, hnc, hcm, hl, hp⟩ := hs
  obtain ⟨b, off, rfl, hc⟩ := hp (by omega)
  have hc' : CellsAt L b (off + i.toNat * 1) (((ls.map f).drop (i.toNat * 1)).take 1) := hc.sub fun j v hv => by
    rw [List.getElem?_take] at hv
    split at hv
    · rw [List.getElem?_drop] at hv; exact hv
    · cases hv
  rw [drop_take_map f ls i.toNat hi', show ls[i.toNat] = a from (List.getElem?_eq_some_iff.1 ha).2] at hc'
  refine ⟨b, _, hc', fun hx hy hK => OK.val (run_v ?_) hK⟩
  rw [hx, hy]
  simp [Instr.indexAt, asIntOf, run_underlying ht, h0, show i < ls.length by omega, hi.size, add_lit]
theorem ix_exF {α : Type} {f : α → List Value} {sz : Nat} (hf : ∀ a, (f a).length = sz) {ls : List α} {a : α} {t e : TypeId} {L : List Hp} {by_ : Nat} {v z : Value} {i : Int} (ht : P.underlying t = some (.slice e)) (hi : TI P e z sz by_)
    (hs : Sl L sz v ls.length (ls.flatMap f)) (h0 : 0 ≤ i) (ha : ls[i.toNat]? = some a) : ∃ b off, CellsAt L b off (f a) ∧ ∀ {ρ : Operand → Value} {dst : Option Tmp} {T : TypeId} {pos : String} {after : Array Edge} {g : Option (Nat × Bool)} {x y : Operand} {k : IntKind} {w : World} {K : Value → World → Prop},
      ρ x = v → ρ y = .int k i → K (.pointer (some ⟨b, off, none⟩)) w → OK P ⟨dst, .indexAddr t x y, T, pos, after, g⟩ ρ w K := by
  have hi' : i.toNat < ls.length := (List.getElem?_eq_some_iff.1 ha).1
  obtain ⟨p, cap, rfl, hnc, hcm, hl, hp⟩ := hs
  obtain ⟨b, off, rfl, hc⟩ := hp (by omega)
  have hc' : CellsAt L b (off + i.toNat * sz) (((ls.flatMap f).drop (i.toNat * sz)).take sz) := hc.sub fun j v hv => by
    rw [List.getElem?_take] at hv
    split at hv
    · rw [List.getElem?_drop] at hv; exact hv
    · cases hv
  rw [flat_part hf ls i.toNat a ha] at hc'
  refine ⟨b, _, hc', fun hx hy hK => OK.val (run_v ?_) hK⟩
  rw [hx, hy]
  simp [Instr.indexAt, asIntOf, run_underlying ht, h0, show i < ls.length by omega, hi.size, add_lit]
theorem o_makeFuncF {ρ : Operand → Value} {w : World} {K : Value → World → Prop} {dst : Option Tmp} {T : TypeId} {pos : String} {after : Array Edge} {g : Option (Nat × Bool)} {f : FuncId} {cs bs : Array Operand} {us vs : Array Value} (hu : bs.map ρ = us) (hv : cs.map ρ = vs)
    (hK : K (.func (.func f) us vs) w) : OK P ⟨dst, .makeFunc (.func f) bs cs, T, pos, after, g⟩ ρ w K := by
  refine OK.val (w' := w) ?_ hK
  subst hv hu; simp [execOp, Instr.makeFunc]
theorem cap0 {ρ : Operand → Value} : (#[] : Array Operand).map ρ = #[] := by simp
end
end Go.Q
namespace Go.Q
section
variable {P : Program} {ops : List Oper} {Q : Exit → Act → World → Prop}
/-- All that a done one waits for is done. -/
def Cl (ops : List Oper) (l : Array Bool) : Prop := ∀ i, l.getD i false = true → ∀ d ∈ depsOf ops i, l.getD d false = true
def anyE (P : Program) (ops : List Oper) (hi : Nat) (K : Act → World → Prop) (I : Array Bool → World → Prop) : Nat → Array Bool → Act → World → Prop
  | 0, l, a, w => I l w ∧ allB hi l = true ∧ K a w
  | n + 1, l, a, w => I l w ∧ allB hi l = false ∧ ∀ i ∈ Region.ready .any ops.toArray l, i < hi → okOp P ops i (anyE P ops hi K I n (l.setIfInBounds i true)) a w
theorem anyE.inv {hi : Nat} {K : Act → World → Prop} {I : Array Bool → World → Prop} : ∀ {n : Nat} {l : Array Bool} {a : Act} {w : World}, anyE P ops hi K I n l a w → I l w
  | 0, _, _, _, h => h.1
  | _ + 1, _, _, _, h => h.1
theorem Cl.set {l : Array Bool} (h : Cl ops l) {j : Nat} (hj : j ∈ Region.ready .any ops.toArray l) : Cl ops (l.setIfInBounds j true) := by
  intro i hi d hd
  by_cases e : j = i
  · subst e
    obtain ⟨_, o, ho, hdone⟩ := mem_ready.1 hj
    have ho' : ops[j]? = some o := by simpa using ho
    unfold depsOf at hd
    rw [ho'] at hd
    obtain ⟨e, he, heq⟩ := List.mem_filterMap.1 hd
    split at heq
    · cases heq; exact getD_set_true (hdone e (by simpa using he) (by assumption))
    · cases heq
  · rw [getD_set_ne false (show j ≠ i from e)] at hi; exact getD_set_true (h i hi d hd)
theorem anyE_first {hi i : Nat} {oi : Oper} {v : Value} {K : Act → World → Prop} {I : Array Bool → World → Prop} (hIm : ∀ l w, l.getD i false = false → I (l.setIfInBounds i true) w → I l w) (hoi : ops[i]? = some oi) (hlt : i < hi)
    (hsel : ∀ (j : Nat) (o : Oper) cs b, ops[j]? = some o → o.op ≠ .select cs b) :
    ∀ (n : Nat) (l : Array Bool) (a : Act) (w : World), Cl ops l →
      (∀ j oj, ops[j]? = some oj → j ≠ i → l.getD j true = false → (∀ e ∈ oj.after, Region.binds .any e = true → e.on ≠ i) → oi.apart ops.toArray oj = true) →
      i ∈ Region.ready .any ops.toArray l → YI P ops oi v a (fun w => ∃ l', Cl ops l' ∧ l'.getD i false = false ∧ I l' w) → anyE P ops hi K I n (l.setIfInBounds i true) (a.put oi.dst v) w → anyE P ops hi K I (n + 1) l a w := by
  intro n
  induction n with
  | zero =>
    intro l a w hcl _ hr hy H
    have hu := ready_un hr
    have hI := hIm l w hu.1 H.inv
    refine ⟨hI, allB_un hu.1 hlt, fun j hj hjh => ?_⟩
    by_cases hji : j = i
    · subst hji; exact hy.ok hoi ⟨l, hcl, hu.1, hI⟩ H
    · have h2 := ready_un (ready_mono hj hji)
      have := allB_un h2.1 hjh
      rw [H.2.1] at this; cases this
  | succ n ih =>
    intro l a w hcl hfree hr hy H
    have hu := ready_un hr
    have hI := hIm l w hu.1 H.inv
    refine ⟨hI, allB_un hu.1 hlt, fun j hj hjh => ?_⟩
    by_cases hji : j = i
    · subst hji; exact hy.ok hoi ⟨l, hcl, hu.1, hI⟩ H
    · have h1 := H.2.2 j (ready_mono hj hji) hjh
      obtain ⟨hjun, oj, hoj, hall⟩ := mem_ready.1 hj
      have hoj' : ops[j]? = some oj := by simpa using hoj
      have hnot : ∀ e ∈ oj.after, Region.binds .any e = true → e.on ≠ i := fun e he hb heq => by
        have h1 := hall e he hb
        rw [heq, hu.1] at h1; cases h1
      have h2 := okOp_put hoj' (hfree j oj hoj' hji hjun hnot) (fun cs b => hsel i oi cs b hoi) (fun cs b => hsel j oj cs b hoj') hy h1
      have hfree' : ∀ k ok, ops[k]? = some ok → k ≠ i → (l.setIfInBounds j true).getD k true = false → (∀ e ∈ ok.after, Region.binds .any e = true → e.on ≠ i) → oi.apart ops.toArray ok = true := fun k ok hk hki hun hno => by
        refine hfree k ok hk hki ?_ hno
        by_cases hjk : j = k
        · subst hjk; exact hjun
        · rw [getD_set_ne true hjk] at hun; exact hun
      refine h2.mono fun a' w' h3 => ih (l.setIfInBounds j true) a' w' (hcl.set hj) hfree' (ready_mono hr (Ne.symm hji)) h3.1 ?_
      rw [Array.setIfInBounds_comm _ _ hji]
      exact h3.2
theorem anyE_wp {hi : Nat} {I : Array Bool → World → Prop} (hok : flowOk3 ops = true) (hbar : barB ops hi = true) (hhi : hi ≤ ops.length) : ∀ (n fuel : Nat) (l : Array Bool) (a : Act) (w : World), l.size = ops.length → (∀ i, hi ≤ i → l.getD i false = false) →
    Cl ops l → n + (ops.length - hi) ≤ fuel → anyE P ops hi (Rest P Q ops hi) I n l a w → wpAny P .any ops.toArray Q fuel l a w
  | 0, fuel, l, a, w, hsz, hnot, _, hf, h => by
    refine h.2.2 hok fuel l hsz (fun i hi' => ?_) hnot (by omega)
    have := h.2.1
    unfold allB at this
    rw [List.all_eq_true] at this
    exact this i (List.mem_range.2 hi')
  | n + 1, fuel, l, a, w, hsz, hnot, hcl, hf, h => by
    obtain ⟨f, rfl⟩ : ∃ f, fuel = f + 1 := ⟨fuel - 1, by omega⟩
    obtain ⟨_, hall, hr⟩ := h
    obtain ⟨m, hm, hum, hmin⟩ : ∃ m, m < hi ∧ l.getD m false = false ∧ ∀ j, j < m → l.getD j false = true := by
      unfold allB at hall
      rw [List.all_eq_false] at hall
      obtain ⟨x, hx, hxu⟩ := hall
      have hx' : x < hi := List.mem_range.1 hx
      have hxu' : l.getD x false = false := by simpa using hxu
      clear hxu hx
      induction x using Nat.strongRecOn with
      | ind x ih =>
        by_cases g : ∃ j, j < x ∧ l.getD j false = false
        · obtain ⟨j, hj, hju⟩ := g; exact ih j hj (by omega) hju
        · exact ⟨x, hx', hxu', fun j hj => by
            cases e : l.getD j false with
            | true => rfl
            | false => exact absurd ⟨j, hj, e⟩ g⟩
    have hml : m < ops.length := by omega
    have hmr : m ∈ Region.ready .any ops.toArray l := by
      refine mem_ready.2 ⟨?_, ops[m], by simp [hml], fun e he hb => ?_⟩
      · have hs : m < l.size := by omega
        simp [hs] at hum ⊢; exact hum
      · have hd := mem_depsOf (List.getElem?_eq_getElem hml) he hb
        exact hmin _ ((flowOk3_spec hok (List.getElem?_eq_getElem hml)).1 _ hd)
    refine ⟨fun g => (by rw [g] at hmr; cases hmr), fun i hi' => ?_⟩
    obtain ⟨hiu, his⟩ := ready_un hi'
    obtain ⟨_, o, ho, hdone⟩ := mem_ready.1 hi'
    have ho' : ops[i]? = some o := by simpa using ho
    have hdeps : ∀ d ∈ depsOf ops i, l.getD d false = true := by
      intro d hd
      unfold depsOf at hd
      rw [ho'] at hd
      obtain ⟨e, he, heq⟩ := List.mem_filterMap.1 hd
      split at heq
      · cases heq; exact hdone e (by simpa using he) (by assumption)
      · cases heq
    have hih : i < hi := by
      rcases Nat.lt_or_ge i hi with g | g
      · exact g
      · have := anc_trans3 hok hcl _ i m (barB_spec hbar i m g (by omega) hm) hdeps
        rw [hum] at this; cases this
    refine wpOp_mono ?_ (hr i hi' hih).wp
    intro a' w' h'
    exact anyE_wp hok hbar hhi n f _ a' w' (by simpa using hsz) (fun j hj => by rw [getD_set_ne false (show i ≠ j by omega)]; exact hnot j hj) (hcl.set hi') (by omega) h'
/-- Up to k1, the first that changes the world, F lies there; G lies there all the way. -/
def I2 (E : World) (k1 : Nat) (F G : List (List Hp)) (l : Array Bool) (w : World) : Prop := (l.getD k1 false = false → Has E w F) ∧ Has E w G
theorem Rest.phaseE {N : Nat} {r : Nat → Value} {w : World} (I : Array Bool → World → Prop) (lo hi m : Nat) (hm : lo + m = hi) (hhi : decide (hi ≤ ops.length) = true) (hbar : barB ops hi = true)
    (h : Cl ops (prefB lo ops.length) → anyE P ops hi (Rest P Q ops hi) I m (prefB lo ops.length) (Go.Q.fr N r) w) : Rest P Q ops lo (Go.Q.fr N r) w := by
  intro hok fuel listed hsz hall hnot hf
  have hhi := of_decide_eq_true hhi
  have e : listed = prefB lo ops.length := by
    unfold prefB
    apply Array.ext
    · simp [hsz]; omega
    · intro i h1 h2
      rcases Nat.lt_or_ge i lo with g | g
      · have := hall i g
        simp [h1] at this
        rw [this]; simp [List.getElem_append, g]
      · have := hnot i g
        simp [h1] at this
        rw [this]; simp [List.getElem_append, Nat.not_lt.2 g]
  subst e
  have hcl : Cl ops (prefB lo ops.length) := fun i hi' d hd => by
    have hil : i < lo := by
      rcases Nat.lt_or_ge i lo with g | g
      · exact g
      · rw [hnot i g] at hi'; cases hi'
    have := (flowOk3_spec hok (List.getElem?_eq_getElem (show i < ops.length by omega))).1 d hd
    exact hall d (by omega)
  exact anyE_wp hok hbar hhi m fuel _ _ w hsz (fun i hi' => hnot i (by omega)) hcl (by omega) (h hcl)
section
variable {hi k1 : Nat} {K : Act → World → Prop} {E : World} {F G : List (List Hp)} {N n : Nat} {l : Array Bool} {r : Nat → Value} {w : World}
theorem I2.early {k : Nat} (hok : flowOk3 ops = true) (h : anc ops ops.length k1 k = true) : ∀ w, (∃ l', Cl ops l' ∧ l'.getD k false = false ∧ I2 E k1 F G l' w) → Has E w F := by
  rintro w ⟨l', hcl, hk, hI⟩
  refine hI.1 ?_
  cases e : l'.getD k1 false with
  | false => rfl
  | true => rw [anc_trans3 hok hcl _ k1 k h (hcl k1 e)] at hk; cases hk
theorem I2.late {k : Nat} : ∀ w, (∃ l', Cl ops l' ∧ l'.getD k false = false ∧ I2 E k1 F G l' w) → Has E w G := fun _ ⟨_, _, _, h⟩ => h.2
theorem I2.mk1 (hF : Has E w F) (hG : Has E w G) : I2 E k1 F G l w := ⟨fun _ => hF, hG⟩
theorem I2.mk2 (h : l.getD k1 false = true) (hG : Has E w G) : I2 E k1 F G l w := ⟨fun g => absurd (h.symm.trans g) (by decide), hG⟩
theorem e_done {a : Act} (h : allB hi l = true) (hI : I2 E k1 F G l w) (hk : K a w) : anyE P ops hi K (I2 E k1 F G) 0 l a w := ⟨hI, h, hk⟩
theorem e_first {k : Nat} {o : Oper} {v : Value} {a : Act} {J : World → Prop} (hcl : Cl ops l) (hne : (k == k1) = false) (ho : ops[k]? = some o) (hf : freeB ops hi l k = true) (hJ : ∀ w, (∃ l', Cl ops l' ∧ l'.getD k false = false ∧ I2 E k1 F G l' w) → J w) (hy : YI P ops o v a J)
    (h : Cl ops (l.setIfInBounds k true) → anyE P ops hi K (I2 E k1 F G) n (l.setIfInBounds k true) (a.put o.dst v) w) : anyE P ops hi K (I2 E k1 F G) (n + 1) l a w := by
  obtain ⟨h1, h2, h3, h4⟩ := freeB_spec hf
  have ho' : ops.toArray[k]? = some o := by simpa using ho
  have hne' : k ≠ k1 := by simpa using hne
  refine anyE_first (fun l w _ hI => ⟨fun g => hI.1 (by rw [getD_set_ne false hne']; exact g), hI.2⟩) ho h4 (fun j o cs b hj => Region.noSelect_spec h1 j o cs b (by simpa using hj)) n l a w hcl (fun j oj hj => Region.free_spec ho' h2 j oj (by simpa using hj)) h3 ?_ (h (hcl.set h3))
  exact hy.imp (fun g => ⟨g.1, fun w hw => g.2 w (hJ w hw)⟩) id
theorem e_op {d : Nat} {op : Op} {T : TypeId} {pos : String} {after : Array Edge} {v : Value} {J : World → Prop} (k : Nat) (hcl : Cl ops l) (hne : (k == k1) = false) (ho : ops[k]? = some ⟨some d, op, T, pos, after, none⟩) (hf : freeB ops hi l k = true) (hJ : ∀ w, (∃ l', Cl ops l' ∧ l'.getD k false = false ∧ I2 E k1 F G l' w) → J w)
    (hv : ∀ w', J w' → OK P ⟨some d, op, T, pos, after, none⟩ (ev N r) w' fun v' w'' => v' = v ∧ w'' = w') (h : Cl ops (l.setIfInBounds k true) → anyE P ops hi K (I2 E k1 F G) n (l.setIfInBounds k true) (Go.Q.fr N (upd r d v)) w) : anyE P ops hi K (I2 E k1 F G) (n + 1) l (Go.Q.fr N r) w := by
  refine e_first hcl hne ho hf hJ (.inl ⟨by simp [Region.wanted], fun w' hI => ?_⟩) (v := v) (by rw [fr_put]; exact h)
  rw [fr_eval]; exact hv w' hI
theorem e_on {d : Nat} {op : Op} {T : TypeId} {pos : String} {after : Array Edge} {g : Nat} {b : Bool} {v : Value} {J : World → Prop} (k : Nat) (hcl : Cl ops l) (hne : (k == k1) = false) (ho : ops[k]? = some ⟨some d, op, T, pos, after, some (g, b)⟩) (hf : freeB ops hi l k = true) (hJ : ∀ w, (∃ l', Cl ops l' ∧ l'.getD k false = false ∧ I2 E k1 F G l' w) → J w) (t : Nat) (hgt : dstOf ops g = some t) (hg : ev N r (.tmp t) = .bool b)
    (hv : ∀ w', J w' → OK P ⟨some d, op, T, pos, after, some (g, b)⟩ (ev N r) w' fun v' w'' => v' = v ∧ w'' = w') (h : Cl ops (l.setIfInBounds k true) → anyE P ops hi K (I2 E k1 F G) n (l.setIfInBounds k true) (Go.Q.fr N (upd r d v)) w) : anyE P ops hi K (I2 E k1 F G) (n + 1) l (Go.Q.fr N r) w := by
  refine e_first hcl hne ho hf hJ (.inl ⟨?_, fun w' hI => ?_⟩) (v := v) (by rw [fr_put]; exact h)
  · obtain ⟨og, h1, h2⟩ := dstOf_spec ops g hgt
    rw [wanted_fr h1 h2 hg]; simp
  · rw [fr_eval]; exact hv w' hI
theorem e_off {d : Nat} {op : Op} {T : TypeId} {pos : String} {after : Array Edge} {g : Nat} {b b' : Bool} (k : Nat) (hcl : Cl ops l) (hne : (k == k1) = false) (ho : ops[k]? = some ⟨some d, op, T, pos, after, some (g, b)⟩) (hf : freeB ops hi l k = true) (t : Nat) (hgt : dstOf ops g = some t) (hg : ev N r (.tmp t) = .bool b') (hb : (b' == b) = false)
    (h : Cl ops (l.setIfInBounds k true) → anyE P ops hi K (I2 E k1 F G) n (l.setIfInBounds k true) (Go.Q.fr N (upd r d undef)) w) : anyE P ops hi K (I2 E k1 F G) (n + 1) l (Go.Q.fr N r) w := by
  refine e_first hcl hne ho hf (J := fun _ => True) (fun _ _ => trivial) (.inr ⟨?_, rfl⟩) (by rw [fr_put]; exact h)
  obtain ⟨og, h1, h2⟩ := dstOf_spec ops g hgt
  rw [wanted_fr h1 h2 hg, hb]
theorem e_only {k : Nat} {o : Oper} {a : Act} (hcl : Cl ops l) (ho : ops[k]? = some o) (hr : onlyB ops hi l k = true) (hI : I2 E k1 F G l w) (h : Cl ops (l.setIfInBounds k true) → okOp P ops k (anyE P ops hi K (I2 E k1 F G) n (l.setIfInBounds k true)) a w) : anyE P ops hi K (I2 E k1 F G) (n + 1) l a w := by
  obtain ⟨h1, h2, h3⟩ := onlyB_spec hr
  exact ⟨hI, allB_un (ready_un h2).1 h3, fun i hi' hlt => by rw [h1 i hi' hlt]; exact h (hcl.set h2)⟩
theorem e_w {d : Nat} {op : Op} {T : TypeId} {pos : String} {after : Array Edge} (k : Nat) (hcl : Cl ops l) (ho : ops[k]? = some ⟨some d, op, T, pos, after, none⟩) (hr : onlyB ops hi l k = true) (hI : I2 E k1 F G l w)
    (h : Cl ops (l.setIfInBounds k true) → OK P ⟨some d, op, T, pos, after, none⟩ (ev N r) w fun v w' => anyE P ops hi K (I2 E k1 F G) n (l.setIfInBounds k true) (Go.Q.fr N (upd r d v)) w') : anyE P ops hi K (I2 E k1 F G) (n + 1) l (Go.Q.fr N r) w := by
  refine e_only hcl ho hr hI fun hc => ⟨_, ho, .inl ⟨by simp [Region.wanted], ?_⟩⟩
  rw [fr_eval]; exact (h hc).mono fun v w' hh => by rw [fr_put]; exact hh
theorem e_we {op : Op} {T : TypeId} {pos : String} {after : Array Edge} (k : Nat) (hcl : Cl ops l) (ho : ops[k]? = some ⟨none, op, T, pos, after, none⟩) (hr : onlyB ops hi l k = true) (hI : I2 E k1 F G l w)
    (h : Cl ops (l.setIfInBounds k true) → OK P ⟨none, op, T, pos, after, none⟩ (ev N r) w fun _ w' => anyE P ops hi K (I2 E k1 F G) n (l.setIfInBounds k true) (Go.Q.fr N r) w') : anyE P ops hi K (I2 E k1 F G) (n + 1) l (Go.Q.fr N r) w := by
  refine e_only hcl ho hr hI fun hc => ⟨_, ho, .inl ⟨by simp [Region.wanted], ?_⟩⟩
  rw [fr_eval]; exact h hc
theorem e_won {d : Nat} {op : Op} {T : TypeId} {pos : String} {after : Array Edge} {g : Nat} {b : Bool} (k : Nat) (hcl : Cl ops l) (ho : ops[k]? = some ⟨some d, op, T, pos, after, some (g, b)⟩) (hr : onlyB ops hi l k = true) (hI : I2 E k1 F G l w) (t : Nat) (hgt : dstOf ops g = some t) (hg : ev N r (.tmp t) = .bool b)
    (h : Cl ops (l.setIfInBounds k true) → OK P ⟨some d, op, T, pos, after, some (g, b)⟩ (ev N r) w fun v w' => anyE P ops hi K (I2 E k1 F G) n (l.setIfInBounds k true) (Go.Q.fr N (upd r d v)) w') : anyE P ops hi K (I2 E k1 F G) (n + 1) l (Go.Q.fr N r) w := by
  refine e_only hcl ho hr hI fun hc => ⟨_, ho, .inl ⟨?_, ?_⟩⟩
  · obtain ⟨og, h1, h2⟩ := dstOf_spec ops g hgt
    rw [wanted_fr h1 h2 hg]; simp
  · rw [fr_eval]; exact (h hc).mono fun v w' hh => by rw [fr_put]; exact hh
end
end
end Go.Q
namespace Go.Q
theorem upon_in {n : Nat} {P : Program} {o : Oper} {a : Act} {K : Act → World → Prop} {Q : Exit → Act → World → Prop} {l : Nat} {r : Result Next} (h : o.upon P a K Q r) : o.uponIn (Fence.wide.inRound l) n P a K Q r := by
  cases r with
  | ok x w' =>
    cases x <;> simp only [Oper.upon, Oper.uponIn] at h ⊢ <;> first | exact h | exact h.elim | skip
    · exact ⟨fun e => by simp [Fence.wide] at e, callsIn_wide.2 h⟩
    · exact ⟨fun e => by simp [Fence.wide] at e, fun c cs _ => let ⟨v, w', r, s⟩ := h c cs; ⟨v, w', r, stepsIn_wide.2 s⟩⟩
  | halt x w' => cases x <;> simp only [Oper.upon, Oper.uponIn] at h ⊢ <;> first | exact h | exact h.elim
theorem oper_in {n : Nat} {P : Program} {o : Oper} {a : Act} {w : World} {K : Act → World → Prop} {Q : Exit → Act → World → Prop} {l : Nat} (hd : ∀ c, o.op ≠ .defer c) (h : o.wp P a w K Q) : o.wpIn (Fence.wide.inRound l) n P a w K Q := by
  refine ⟨fun _ _ => trivial, ?_⟩
  rw [Oper.semAt_eq _ _ _ hd]
  exact upon_in h
def isDefer : Op → Bool
  | .defer _ => true
  | _ => false
theorem any_in {n : Nat} {P : Program} {ops : List Oper} {Q : Exit → Act → World → Prop} {l : Nat} (hd : ops.all (fun o => !isDefer o.op) = true) (hl : ¬ LetsOut Q) : ∀ (fuel : Nat) (listed : Array Bool) (a : Act) (w : World),
    wpAny P .any ops.toArray Q fuel listed a w → wpAnyIn (Fence.wide.inRound l) n P .any ops.toArray Q fuel listed a w
  | 0, _, _, _, h => h
  | fuel + 1, listed, a, w, h => by
    refine ⟨h.1, fun i hi => ?_⟩
    have h2 := h.2 i hi
    unfold wpOp at h2
    unfold wpOpIn
    split
    · rename_i hn; rw [hn] at h2; exact any_in hd hl _ _ _ _ h2
    · rename_i o ho
      rw [ho] at h2
      have hm : o ∈ ops := by
        have : ops[i]? = some o := by simpa using ho
        exact List.mem_of_getElem? this
      have hdo : ∀ c, o.op ≠ .defer c := fun c e => by
        have := List.all_eq_true.1 hd o hm
        rw [e] at this; cases this
      by_cases hw : Region.wanted o (yielded ops.toArray a.tmps) = true
      · simp only [hw, if_true] at h2 ⊢
        rcases h2 with h2 | h2
        · exact oper_in hdo (Oper.wp_mono (fun a w => any_in hd hl _ _ a w) h2)
        · exact absurd h2.2 hl
      · simp only [hw] at h2 ⊢
        exact ⟨fun _ _ => trivial, any_in hd hl _ _ _ _ h2⟩
theorem region_in {n : Nat} {P : Program} {ops : List Oper} {Q : Exit → Act → World → Prop} {l id N : Nat} {r : Nat → Value} {a : Act} {w : World} (hm : P.follows .mixedOrders = true) (ha : a = Go.Q.fr N r) (hok : flowOk3 ops = true) (hd : ops.all (fun o => !isDefer o.op) = true) (hl : ¬ LetsOut Q)
    (h : Rest P Q ops 0 (Go.Q.fr N r) { w with drawn := w.drawn + 1 }) : (Code.region id ops.toArray true).wpIn (Fence.wide.inRound l) n P Q a w := by
  subst ha
  refine wpIn_region_any hm (any_in hd hl _ _ _ _ (h hok _ _ (by simp) (fun i hi => absurd hi (Nat.not_lt_zero _)) (fun i _ => ?_) (by simp)))
  by_cases h : i < ops.length <;> simp [h]
theorem o_ixAt {P : Program} {t e : TypeId} {by_ : Nat} {z : Value} {i : Int} {b off n cap : Nat} {ρ : Operand → Value} {dst : Option Tmp} {T : TypeId} {pos : String} {after : Array Edge} {g : Option (Nat × Bool)} {x y : Operand} {k : IntKind} {w : World} {K : Value → World → Prop}
    (ht : P.underlying t = some (.slice e)) (hi : TI P e z 1 by_) (hx : ρ x = .slice (some ⟨b, off, none⟩) n cap) (hy : ρ y = .int k i) (h0 : 0 ≤ i) (hlt : i < n) (hK : K (.pointer (some ⟨b, off + i.toNat, none⟩)) w) : OK P ⟨dst, .indexAddr t x y, T, pos, after, g⟩ ρ w K := by
  refine OK.val (run_v ?_) hK
  rw [hx, hy]
  simp [Instr.indexAt, asIntOf, run_underlying ht, h0, hlt, hi.size, add_lit]

theorem Has.of_bel {E w w' : World} {ss : List (List Hp)} (H : Has E w ss) (hb : Go.RowKit.Below w.heap.size w w') : Has E w' ss :=
  ⟨hb.os.trans H.os, hb.tape.trans H.tape, hb.output.trans H.output, H.dj, fun h hh b o ho => by
    have h1 := Has0.sub H h hh b o ho
    rw [hb.block b (Array.getElem?_eq_some_iff.1 h1).1]; exact h1⟩
theorem CellsAt.lt {E w : World} {ss : List (List Hp)} (H : Has E w ss) {L : List Hp} (hL : L ⊆ ss.flatten) {b off : Nat} {cs : List Value} (hc : CellsAt L b off cs) : b < w.heap.size := by
  obtain ⟨h, hh, c, T, f, hb, _⟩ := hc
  exact Has0.lt H (hL hh) hb
end Go.Q
namespace Go.Q
theorem Has.below {w w' : World} (H : Has w w' [[Hp.of w]]) : RowKit.Below w.heap.size w w' := by
  have hs : ∀ b o, w.heap[b]? = some o → w'.heap[b]? = some o := Has0.sub H (Hp.of w) (by simp)
  have hb : ∀ k, k < w.heap.size → w'.heap[k]? = w.heap[k]? := fun k hk => by
    rw [hs k w.heap[k] (Array.getElem?_eq_getElem hk), Array.getElem?_eq_getElem hk]
  refine ⟨H.os, H.tape, H.output, ?_, hb⟩
  rcases Nat.eq_zero_or_pos w.heap.size with h | h
  · omega
  · have h1 := hb (w.heap.size - 1) (by omega)
    rw [Array.getElem?_eq_getElem (show w.heap.size - 1 < w.heap.size by omega)] at h1
    have h2 := (Array.getElem?_eq_some_iff.1 h1).1
    omega
/-- cells that are read one by one, as a row -/
theorem cells_row {w : World} {x : Addr} {vs : List Value} (h0 : 0 < vs.length) (h : ∀ i v, vs[i]? = some v → w.cell? (x.add i) = some v) : ∃ b off, x = ⟨b, off, none⟩ ∧ CellsAt [Hp.of w] b off vs := by
  obtain ⟨b, off, spot⟩ := x
  have hc := h 0 vs[0] (List.getElem?_eq_getElem h0)
  simp only [Addr.add, if_true, World.cell?] at hc
  cases hb : w.heap[b]? with
  | none => rw [hb] at hc; cases hc
  | some o =>
    cases o with
    | cells c T f =>
      rw [hb] at hc
      simp only at hc
      cases spot with
      | some s => simp at hc
      | none =>
        refine ⟨b, off, rfl, Hp.of w, List.mem_singleton.2 rfl, c, T, f, hb, fun j v hv => ?_⟩
        have := h j v hv
        rw [add_lit] at this
        simpa [World.cell?, hb] using this
    | _ => rw [hb] at hc; simp at hc
theorem ints_row {w : World} {a : Option Addr} {len cap : Nat} {zs : List Int}
    (h : (a = none ∧ len = 0 ∧ cap = 0 ∧ zs = []) ∨ ∃ x, a = some x ∧ len ≤ cap ∧ cap ≤ maxLen ∧ zs.length = cap ∧ (∀ i, i < zs.length → w.cell? (x.add i) = some (.int .i64 (zs.getD i 0))) ∧ ∀ n ∈ zs, (Lit.int .i64 n).wf = true) :
    ∃ l : List Int, l.length = len ∧ Ints [Hp.of w] (.slice a len cap) l ∧ ∀ n ∈ l, -9223372036854775808 ≤ n ∧ n ≤ 9223372036854775807 := by
  rcases h with ⟨rfl, rfl, rfl, rfl⟩ | ⟨x, rfl, h1, h2, h3, h4, h5⟩
  · exact ⟨[], rfl, sl_nil 1, fun n hn => by cases hn⟩
  · have hl : (zs.take len).length = len := by rw [List.length_take]; omega
    refine ⟨zs.take len, hl, ?_, fun n hn => ?_⟩
    · unfold Ints
      rw [hl]
      refine ⟨some x, cap, rfl, h1, by simpa [maxLen] using h2, by simp; omega, fun h0 => ?_⟩
      obtain ⟨b, off, rfl, hc⟩ := cells_row (w := w) (x := x) (vs := (zs.take len).map iV) (by simp; omega) (fun i v hv => by
        rw [List.getElem?_map, Option.map_eq_some_iff] at hv
        obtain ⟨z, hz, rfl⟩ := hv
        rw [List.getElem?_take] at hz
        split at hz
        · rw [h4 i (by omega), List.getD_eq_getElem?_getD, hz]; rfl
        · cases hz)
      exact ⟨b, off, rfl, hc⟩
    · have := h5 n (List.mem_of_mem_take hn)
      simp only [Lit.wf, IntKind.min, IntKind.max, IntKind.signed, IntKind.bits, Bool.and_eq_true, decide_eq_true_eq, if_true] at this
      omega
end Go.Q
namespace Go.Q
theorem wf_i64 {x : Int} (h : (Lit.int .i64 x).wf = true) : -9223372036854775808 ≤ x ∧ x ≤ 9223372036854775807 := by
  simp only [Lit.wf, IntKind.min, IntKind.max, IntKind.signed, IntKind.bits, Bool.and_eq_true, decide_eq_true_eq, if_true] at h
  omega
theorem wf_u8 {x : Int} (h : (Lit.int .u8 x).wf = true) : 0 ≤ x ∧ x ≤ 255 := by
  simp [Lit.wf, IntKind.min, IntKind.max, IntKind.signed, IntKind.bits] at h
  omega
end Go.Q
namespace Go.Q
open Go.Proofs
theorem ti1 : TI Try.prog 1 .nilFunc 1 8 := TI.mk (by kernel_rfl)
theorem ti2 : TI Try.prog 2 (.int .i64 0) 1 8 := TI.mk (by kernel_rfl)
theorem ti3 : TI Try.prog 3 (.int .i64 0) 1 8 := TI.mk (by kernel_rfl)
theorem ti4 : TI Try.prog 4 (.bool false) 1 1 := TI.mk (by kernel_rfl)
theorem ti5 : TI Try.prog 5 (.int .u8 0) 1 1 := TI.mk (by kernel_rfl)
theorem ti6 : TI Try.prog 6 (.int .u8 0) 1 1 := TI.mk (by kernel_rfl)
theorem ti7 : TI Try.prog 7 (.agg #[(.int .i64 0), (.int .i64 0), (.bool false), (.int .u8 0)]) 4 24 := TI.mk (by kernel_rfl)
theorem ti8 : TI Try.prog 8 (.agg #[(.int .i64 0), (.int .i64 0), (.bool false), (.int .u8 0)]) 4 24 := TI.mk (by kernel_rfl)
theorem ti9 : TI Try.prog 9 (.string ⟨#[]⟩) 1 16 := TI.mk (by kernel_rfl)
theorem ti10 : TI Try.prog 10 (.string ⟨#[]⟩) 1 16 := TI.mk (by kernel_rfl)
theorem ti11 : TI Try.prog 11 (.string ⟨#[]⟩) 1 16 := TI.mk (by kernel_rfl)
theorem ti12 : TI Try.prog 12 (.int .u64 0) 1 8 := TI.mk (by kernel_rfl)
theorem ti13 : TI Try.prog 13 (.agg #[(.string ⟨#[]⟩), (.int .u64 0)]) 2 24 := TI.mk (by kernel_rfl)
theorem ti14 : TI Try.prog 14 (.agg #[(.string ⟨#[]⟩), (.int .u64 0)]) 2 24 := TI.mk (by kernel_rfl)
theorem ti15 : TI Try.prog 15 (.pointer none) 1 8 := TI.mk (by kernel_rfl)
theorem ti16 : TI Try.prog 16 (.pointer none) 1 8 := TI.mk (by kernel_rfl)
theorem ti17 : TI Try.prog 17 (.pointer none) 1 8 := TI.mk (by kernel_rfl)
theorem ti18 : TI Try.prog 18 (.agg #[(.pointer none)]) 1 8 := TI.mk (by kernel_rfl)
theorem ti19 : TI Try.prog 19 (.agg #[(.pointer none)]) 1 8 := TI.mk (by kernel_rfl)
theorem ti20 : TI Try.prog 20 .nilIface 1 16 := TI.mk (by kernel_rfl)
theorem ti21 : TI Try.prog 21 (.int .i32 0) 1 4 := TI.mk (by kernel_rfl)
theorem ti22 : TI Try.prog 22 (.slice none 0 0) 1 24 := TI.mk (by kernel_rfl)
theorem ti24 : TI Try.prog 24 .nilFunc 1 8 := TI.mk (by kernel_rfl)
theorem ti25 : TI Try.prog 25 (.pointer none) 1 8 := TI.mk (by kernel_rfl)
theorem ti26 : TI Try.prog 26 .nilFunc 1 8 := TI.mk (by kernel_rfl)
theorem ti27 : TI Try.prog 27 (.int .i64 0) 1 8 := TI.mk (by kernel_rfl)
theorem ti29 : TI Try.prog 29 (.agg #[(.bool false), (.string ⟨#[]⟩)]) 2 24 := TI.mk (by kernel_rfl)
theorem ti30 : TI Try.prog 30 (.agg #[(.bool false), (.string ⟨#[]⟩)]) 2 24 := TI.mk (by kernel_rfl)
theorem ti31 : TI Try.prog 31 (.agg #[(.int .i64 0), (.int .i64 0), (.int .i64 0), (.int .i64 0), (.int .i64 0), (.string ⟨#[]⟩), (.bool false), (.string ⟨#[]⟩), (.bool false), (.string ⟨#[]⟩), (.int .i64 0)]) 11 112 := TI.mk (by kernel_rfl)
theorem ti32 : TI Try.prog 32 (.agg #[(.int .i64 0), (.int .i64 0), (.int .i64 0), (.int .i64 0), (.int .i64 0), (.string ⟨#[]⟩), (.bool false), (.string ⟨#[]⟩), (.bool false), (.string ⟨#[]⟩), (.int .i64 0)]) 11 112 := TI.mk (by kernel_rfl)
theorem ti33 : TI Try.prog 33 (.slice none 0 0) 1 24 := TI.mk (by kernel_rfl)
theorem ti34 : TI Try.prog 34 (.agg #[(.int .i64 0), (.int .i64 0), (.int .i64 0), (.int .i64 0), (.int .i64 0), (.slice none 0 0), (.slice none 0 0)]) 7 88 := TI.mk (by kernel_rfl)
theorem ti35 : TI Try.prog 35 (.agg #[(.int .i64 0), (.int .i64 0), (.int .i64 0), (.int .i64 0), (.int .i64 0), (.slice none 0 0), (.slice none 0 0)]) 7 88 := TI.mk (by kernel_rfl)
theorem ti38 : TI Try.prog 38 (.agg #[(.int .i64 0), (.int .i64 0)]) 2 16 := TI.mk (by kernel_rfl)
theorem ti39 : TI Try.prog 39 (.agg #[(.int .i64 0), (.int .i64 0)]) 2 16 := TI.mk (by kernel_rfl)
theorem ti44 : TI Try.prog 44 (.slice none 0 0) 1 24 := TI.mk (by kernel_rfl)
theorem ti46 : TI Try.prog 46 (.pointer none) 1 8 := TI.mk (by kernel_rfl)
theorem ti48 : TI Try.prog 48 (.pointer none) 1 8 := TI.mk (by kernel_rfl)
theorem ti53 : TI Try.prog 53 (.slice none 0 0) 1 24 := TI.mk (by kernel_rfl)
theorem ti54 : TI Try.prog 54 (.slice none 0 0) 1 24 := TI.mk (by kernel_rfl)
theorem ti55 : TI Try.prog 55 (.agg #[(.int .i64 0), (.int .i64 0), (.int .i64 0), (.slice none 0 0), (.slice none 0 0)]) 5 72 := TI.mk (by kernel_rfl)
theorem ti56 : TI Try.prog 56 (.agg #[(.int .i64 0), (.int .i64 0), (.int .i64 0), (.slice none 0 0), (.slice none 0 0)]) 5 72 := TI.mk (by kernel_rfl)
theorem ti58 : TI Try.prog 58 .nilFunc 1 8 := TI.mk (by kernel_rfl)
theorem ti60 : TI Try.prog 60 .nilFunc 1 8 := TI.mk (by kernel_rfl)
theorem ti64 : TI Try.prog 64 .nilFunc 1 8 := TI.mk (by kernel_rfl)
theorem ti66 : TI Try.prog 66 (.slice none 0 0) 1 24 := TI.mk (by kernel_rfl)
theorem ti68 : TI Try.prog 68 (.pointer none) 1 8 := TI.mk (by kernel_rfl)
theorem ti69 : TI Try.prog 69 .nilFunc 1 8 := TI.mk (by kernel_rfl)
theorem ti70 : TI Try.prog 70 (.agg #[(.int .i64 0), (.int .i64 0), (.string ⟨#[]⟩), (.bool false), (.slice none 0 0)]) 5 64 := TI.mk (by kernel_rfl)
theorem ti71 : TI Try.prog 71 (.agg #[(.int .i64 0), (.int .i64 0), (.string ⟨#[]⟩), (.bool false), (.slice none 0 0)]) 5 64 := TI.mk (by kernel_rfl)
theorem ti73 : TI Try.prog 73 (.agg #[(.string ⟨#[]⟩), (.bool false)]) 2 24 := TI.mk (by kernel_rfl)
theorem ti74 : TI Try.prog 74 (.agg #[(.string ⟨#[]⟩), (.bool false)]) 2 24 := TI.mk (by kernel_rfl)
theorem ti78 : TI Try.prog 78 (.slice none 0 0) 1 24 := TI.mk (by kernel_rfl)
theorem ti82 : TI Try.prog 82 (.slice none 0 0) 1 24 := TI.mk (by kernel_rfl)
theorem ti83 : TI Try.prog 83 .nilFunc 1 8 := TI.mk (by kernel_rfl)
theorem ti84 : TI Try.prog 84 (.slice none 0 0) 1 24 := TI.mk (by kernel_rfl)
theorem ti85 : TI Try.prog 85 (.agg #[(.slice none 0 0), (.slice none 0 0)]) 2 48 := TI.mk (by kernel_rfl)
theorem ti86 : TI Try.prog 86 (.agg #[(.slice none 0 0), (.slice none 0 0)]) 2 48 := TI.mk (by kernel_rfl)
theorem ti94 : TI Try.prog 94 (.agg #[(.int .i64 0), (.int .i64 0)]) 2 16 := TI.mk (by kernel_rfl)
theorem ti95 : TI Try.prog 95 (.agg #[(.int .i64 0), (.int .i64 0)]) 2 16 := TI.mk (by kernel_rfl)
theorem ti97 : TI Try.prog 97 (.slice none 0 0) 1 24 := TI.mk (by kernel_rfl)
theorem ti99 : TI Try.prog 99 (.pointer none) 1 8 := TI.mk (by kernel_rfl)
theorem ti100 : TI Try.prog 100 (.agg #[(.bool false), (.bool false), (.int .i64 0), (.int .i64 0)]) 4 24 := TI.mk (by kernel_rfl)
theorem ti101 : TI Try.prog 101 (.agg #[(.bool false), (.bool false), (.int .i64 0), (.int .i64 0)]) 4 24 := TI.mk (by kernel_rfl)
theorem ti103 : TI Try.prog 103 (.agg #[(.int .i64 0), (.int .i64 0), (.bool false), (.slice none 0 0), (.slice none 0 0)]) 5 72 := TI.mk (by kernel_rfl)
theorem ti104 : TI Try.prog 104 (.agg #[(.int .i64 0), (.int .i64 0), (.bool false), (.slice none 0 0), (.slice none 0 0)]) 5 72 := TI.mk (by kernel_rfl)
theorem ti108 : TI Try.prog 108 (.pointer none) 1 8 := TI.mk (by kernel_rfl)
theorem ti110 : TI Try.prog 110 (.pointer none) 1 8 := TI.mk (by kernel_rfl)
theorem ti111 : TI Try.prog 111 (.agg #[(.bool false), (.bool false), (.int .i64 0), (.int .i64 0)]) 4 24 := TI.mk (by kernel_rfl)
theorem ti112 : TI Try.prog 112 (.agg #[(.bool false), (.bool false), (.int .i64 0), (.int .i64 0)]) 4 24 := TI.mk (by kernel_rfl)
theorem ti115 : TI Try.prog 115 .nilFunc 1 8 := TI.mk (by kernel_rfl)
theorem ti120 : TI Try.prog 120 .nilFunc 1 8 := TI.mk (by kernel_rfl)
theorem ti123 : TI Try.prog 123 (.map none) 1 8 := TI.mk (by kernel_rfl)
theorem ti124 : TI Try.prog 124 (.agg #[(.map none)]) 1 8 := TI.mk (by kernel_rfl)
theorem ti125 : TI Try.prog 125 (.agg #[(.map none)]) 1 8 := TI.mk (by kernel_rfl)
theorem ti127 : TI Try.prog 127 (.pointer none) 1 8 := TI.mk (by kernel_rfl)
theorem ti128 : TI Try.prog 128 .nilFunc 1 8 := TI.mk (by kernel_rfl)
theorem ti129 : TI Try.prog 129 (.agg #[(.int .i64 0), (.int .i64 0), (.int .i64 0), (.int .i64 0), (.int .i64 0), (.slice none 0 0), (.slice none 0 0)]) 7 88 := TI.mk (by kernel_rfl)
theorem ti130 : TI Try.prog 130 (.agg #[(.int .i64 0), (.int .i64 0), (.int .i64 0), (.int .i64 0), (.int .i64 0), (.slice none 0 0), (.slice none 0 0)]) 7 88 := TI.mk (by kernel_rfl)
theorem ti135 : TI Try.prog 135 (.map none) 1 8 := TI.mk (by kernel_rfl)
theorem ti136 : TI Try.prog 136 (.agg #[(.pointer none), (.slice none 0 0), (.map none)]) 3 40 := TI.mk (by kernel_rfl)
theorem ti137 : TI Try.prog 137 (.agg #[(.pointer none), (.slice none 0 0), (.map none)]) 3 40 := TI.mk (by kernel_rfl)
theorem ti138 : TI Try.prog 138 (.agg #[(.pointer none), (.int .i64 0), (.int .i64 0)]) 3 24 := TI.mk (by kernel_rfl)
theorem ti139 : TI Try.prog 139 (.agg #[(.pointer none), (.int .i64 0), (.int .i64 0)]) 3 24 := TI.mk (by kernel_rfl)
theorem ti142 : TI Try.prog 142 (.slice none 0 0) 1 24 := TI.mk (by kernel_rfl)
theorem ti144 : TI Try.prog 144 (.agg #[(.int .i64 0), (.int .i64 0), (.int .i64 0)]) 3 24 := TI.mk (by kernel_rfl)
theorem ti145 : TI Try.prog 145 (.agg #[(.int .i64 0), (.int .i64 0), (.int .i64 0)]) 3 24 := TI.mk (by kernel_rfl)
theorem ti146 : TI Try.prog 146 (.pointer none) 1 8 := TI.mk (by kernel_rfl)
theorem ti147 : TI Try.prog 147 (.slice none 0 0) 1 24 := TI.mk (by kernel_rfl)
theorem ti148 : TI Try.prog 148 (.agg #[(.pointer none), (.slice none 0 0)]) 2 32 := TI.mk (by kernel_rfl)
theorem ti149 : TI Try.prog 149 (.agg #[(.pointer none), (.slice none 0 0)]) 2 32 := TI.mk (by kernel_rfl)
theorem ti150 : TI Try.prog 150 .nilIface 1 16 := TI.mk (by kernel_rfl)
theorem ti151 : TI Try.prog 151 .nilIface 1 16 := TI.mk (by kernel_rfl)
theorem ti160 : TI Try.prog 160 .nilFunc 1 8 := TI.mk (by kernel_rfl)
theorem ti162 : TI Try.prog 162 (.map none) 1 8 := TI.mk (by kernel_rfl)
theorem ti163 : TI Try.prog 163 (.agg #[(.map none)]) 1 8 := TI.mk (by kernel_rfl)
theorem ti164 : TI Try.prog 164 (.agg #[(.map none)]) 1 8 := TI.mk (by kernel_rfl)
theorem ti165 : TI Try.prog 165 (.pointer none) 1 8 := TI.mk (by kernel_rfl)
theorem ti166 : TI Try.prog 166 (.slice none 0 0) 1 24 := TI.mk (by kernel_rfl)
theorem ti167 : TI Try.prog 167 (.agg #[(.slice none 0 0), (.slice none 0 0)]) 2 48 := TI.mk (by kernel_rfl)
theorem ti168 : TI Try.prog 168 (.agg #[(.slice none 0 0), (.slice none 0 0)]) 2 48 := TI.mk (by kernel_rfl)
theorem ti169 : TI Try.prog 169 (.agg #[(.string ⟨#[]⟩), (.bool false), (.int .i64 0)]) 3 32 := TI.mk (by kernel_rfl)
theorem ti170 : TI Try.prog 170 (.agg #[(.string ⟨#[]⟩), (.bool false), (.int .i64 0)]) 3 32 := TI.mk (by kernel_rfl)
theorem ti175 : TI Try.prog 175 .nilFunc 1 8 := TI.mk (by kernel_rfl)
theorem ti182 : TI Try.prog 182 (.agg #[(.int .i64 0), (.string ⟨#[]⟩), (.bool false)]) 3 32 := TI.mk (by kernel_rfl)
theorem ti183 : TI Try.prog 183 (.agg #[(.int .i64 0), (.string ⟨#[]⟩), (.bool false)]) 3 32 := TI.mk (by kernel_rfl)
theorem ti185 : TI Try.prog 185 (.slice none 0 0) 1 24 := TI.mk (by kernel_rfl)
theorem ti186 : TI Try.prog 186 .nilFunc 1 8 := TI.mk (by kernel_rfl)
theorem ti187 : TI Try.prog 187 (.agg #[(.int .i64 0), (.int .i64 0)]) 2 16 := TI.mk (by kernel_rfl)
theorem ti188 : TI Try.prog 188 (.agg #[(.slice none 0 0), (.slice none 0 0), (.slice none 0 0)]) 3 72 := TI.mk (by kernel_rfl)
theorem ti189 : TI Try.prog 189 (.agg #[(.slice none 0 0), (.slice none 0 0), (.slice none 0 0)]) 3 72 := TI.mk (by kernel_rfl)
theorem ti190 : TI Try.prog 190 (.slice none 0 0) 1 24 := TI.mk (by kernel_rfl)
theorem ti191 : TI Try.prog 191 .nilFunc 1 8 := TI.mk (by kernel_rfl)
theorem ti202 : TI Try.prog 202 .nilFunc 1 8 := TI.mk (by kernel_rfl)
theorem ti204 : TI Try.prog 204 (.int .u64 0) 1 8 := TI.mk (by kernel_rfl)
theorem ti208 : TI Try.prog 208 (.pointer none) 1 8 := TI.mk (by kernel_rfl)
theorem ti215 : TI Try.prog 215 .nilFunc 1 8 := TI.mk (by kernel_rfl)
theorem ti217 : TI Try.prog 217 (.slice none 0 0) 1 24 := TI.mk (by kernel_rfl)
theorem ti236 : TI Try.prog 236 (.int .u32 0) 1 4 := TI.mk (by kernel_rfl)
theorem ti239 : TI Try.prog 239 (.int .u64 0) 1 8 := TI.mk (by kernel_rfl)
theorem ti243 : TI Try.prog 243 (.pointer none) 1 8 := TI.mk (by kernel_rfl)
theorem ti260 : TI Try.prog 260 (.int .i64 0) 1 8 := TI.mk (by kernel_rfl)
theorem ti273 : TI Try.prog 273 (.int .u64 0) 1 8 := TI.mk (by kernel_rfl)
theorem ti275 : TI Try.prog 275 .nilFunc 1 8 := TI.mk (by kernel_rfl)
theorem ti277 : TI Try.prog 277 (.pointer none) 1 8 := TI.mk (by kernel_rfl)
theorem ti286 : TI Try.prog 286 (.slice none 0 0) 1 24 := TI.mk (by kernel_rfl)
theorem ti289 : TI Try.prog 289 (.pointer none) 1 8 := TI.mk (by kernel_rfl)
theorem ti297 : TI Try.prog 297 (.agg #[(.pointer none), (.pointer none), (.pointer none), (.string ⟨#[]⟩)]) 4 40 := TI.mk (by kernel_rfl)
theorem ti298 : TI Try.prog 298 (.agg #[(.pointer none), (.pointer none), (.pointer none), (.string ⟨#[]⟩)]) 4 40 := TI.mk (by kernel_rfl)
theorem ti299 : TI Try.prog 299 (.agg #[]) 0 0 := TI.mk (by kernel_rfl)
theorem ti300 : TI Try.prog 300 (.agg #[]) 0 0 := TI.mk (by kernel_rfl)
theorem ti301 : TI Try.prog 301 (.agg #[]) 0 0 := TI.mk (by kernel_rfl)
theorem ti302 : TI Try.prog 302 (.int .u8 0) 1 1 := TI.mk (by kernel_rfl)
theorem ti303 : TI Try.prog 303 (.int .u8 0) 1 1 := TI.mk (by kernel_rfl)
theorem ti305 : TI Try.prog 305 (.int .i32 0) 1 4 := TI.mk (by kernel_rfl)
theorem ti306 : TI Try.prog 306 (.int .i32 0) 1 4 := TI.mk (by kernel_rfl)
theorem ti307 : TI Try.prog 307 (.agg #[(.int .u64 0), (.int .u64 0), (.int .u32 0), (.int .u8 0), (.int .u8 0), (.int .u8 0), (.int .u8 0), .nilFunc, (.pointer none), (.int .i32 0), (.int .i32 0)]) 11 48 := TI.mk (by kernel_rfl)
theorem ti308 : TI Try.prog 308 (.agg #[(.int .u64 0), (.int .u64 0), (.int .u32 0), (.int .u8 0), (.int .u8 0), (.int .u8 0), (.int .u8 0), .nilFunc, (.pointer none), (.int .i32 0), (.int .i32 0)]) 11 48 := TI.mk (by kernel_rfl)
theorem ca2 : Callable Try.prog 2 := ⟨_, Try.func2, by kernel_rfl, by kernel_rfl⟩
theorem ca3 : Callable Try.prog 3 := ⟨_, Try.func3, by kernel_rfl, by kernel_rfl⟩
theorem ca4 : Callable Try.prog 4 := ⟨_, Try.func4, by kernel_rfl, by kernel_rfl⟩
theorem ca5 : Callable Try.prog 5 := ⟨_, Try.func5, by kernel_rfl, by kernel_rfl⟩
theorem ca6 : Callable Try.prog 6 := ⟨_, Try.func6, by kernel_rfl, by kernel_rfl⟩
theorem ca7 : Callable Try.prog 7 := ⟨_, Try.func7, by kernel_rfl, by kernel_rfl⟩
theorem ca8 : Callable Try.prog 8 := ⟨_, Try.func8, by kernel_rfl, by kernel_rfl⟩
theorem ca9 : Callable Try.prog 9 := ⟨_, Try.func9, by kernel_rfl, by kernel_rfl⟩
theorem ca10 : Callable Try.prog 10 := ⟨_, Try.func10, by kernel_rfl, by kernel_rfl⟩
theorem ca11 : Callable Try.prog 11 := ⟨_, Try.func11, by kernel_rfl, by kernel_rfl⟩
theorem ca12 : Callable Try.prog 12 := ⟨_, Try.func12, by kernel_rfl, by kernel_rfl⟩
theorem ca13 : Callable Try.prog 13 := ⟨_, Try.func13, by kernel_rfl, by kernel_rfl⟩
theorem ca14 : Callable Try.prog 14 := ⟨_, Try.func14, by kernel_rfl, by kernel_rfl⟩
theorem ca15 : Callable Try.prog 15 := ⟨_, Try.func15, by kernel_rfl, by kernel_rfl⟩
theorem ca16 : Callable Try.prog 16 := ⟨_, Try.func16, by kernel_rfl, by kernel_rfl⟩
theorem ca17 : Callable Try.prog 17 := ⟨_, Try.func17, by kernel_rfl, by kernel_rfl⟩
theorem ca18 : Callable Try.prog 18 := ⟨_, Try.func18, by kernel_rfl, by kernel_rfl⟩
theorem ca19 : Callable Try.prog 19 := ⟨_, Try.func19, by kernel_rfl, by kernel_rfl⟩
theorem ca20 : Callable Try.prog 20 := ⟨_, Try.func20, by kernel_rfl, by kernel_rfl⟩
theorem ca21 : Callable Try.prog 21 := ⟨_, Try.func21, by kernel_rfl, by kernel_rfl⟩
theorem ca22 : Callable Try.prog 22 := ⟨_, Try.func22, by kernel_rfl, by kernel_rfl⟩
theorem ca23 : Callable Try.prog 23 := ⟨_, Try.func23, by kernel_rfl, by kernel_rfl⟩
theorem ca24 : Callable Try.prog 24 := ⟨_, Try.func24, by kernel_rfl, by kernel_rfl⟩
theorem ca25 : Callable Try.prog 25 := ⟨_, Try.func25, by kernel_rfl, by kernel_rfl⟩
theorem ca26 : Callable Try.prog 26 := ⟨_, Try.func26, by kernel_rfl, by kernel_rfl⟩
theorem ca27 : Callable Try.prog 27 := ⟨_, Try.func27, by kernel_rfl, by kernel_rfl⟩
theorem ca28 : Callable Try.prog 28 := ⟨_, Try.func28, by kernel_rfl, by kernel_rfl⟩
theorem ca29 : Callable Try.prog 29 := ⟨_, Try.func29, by kernel_rfl, by kernel_rfl⟩
theorem ca30 : Callable Try.prog 30 := ⟨_, Try.func30, by kernel_rfl, by kernel_rfl⟩
theorem ca31 : Callable Try.prog 31 := ⟨_, Try.func31, by kernel_rfl, by kernel_rfl⟩
theorem ca32 : Callable Try.prog 32 := ⟨_, Try.func32, by kernel_rfl, by kernel_rfl⟩
theorem ca33 : Callable Try.prog 33 := ⟨_, Try.func33, by kernel_rfl, by kernel_rfl⟩
theorem ca34 : Callable Try.prog 34 := ⟨_, Try.func34, by kernel_rfl, by kernel_rfl⟩
theorem ca35 : Callable Try.prog 35 := ⟨_, Try.func35, by kernel_rfl, by kernel_rfl⟩
theorem ca36 : Callable Try.prog 36 := ⟨_, Try.func36, by kernel_rfl, by kernel_rfl⟩
theorem ca37 : Callable Try.prog 37 := ⟨_, Try.func37, by kernel_rfl, by kernel_rfl⟩
theorem ca38 : Callable Try.prog 38 := ⟨_, Try.func38, by kernel_rfl, by kernel_rfl⟩
theorem ca39 : Callable Try.prog 39 := ⟨_, Try.func39, by kernel_rfl, by kernel_rfl⟩
theorem ca40 : Callable Try.prog 40 := ⟨_, Try.func40, by kernel_rfl, by kernel_rfl⟩
theorem ca41 : Callable Try.prog 41 := ⟨_, Try.func41, by kernel_rfl, by kernel_rfl⟩
theorem ca42 : Callable Try.prog 42 := ⟨_, Try.func42, by kernel_rfl, by kernel_rfl⟩
theorem ca43 : Callable Try.prog 43 := ⟨_, Try.func43, by kernel_rfl, by kernel_rfl⟩
theorem ca44 : Callable Try.prog 44 := ⟨_, Try.func44, by kernel_rfl, by kernel_rfl⟩
theorem ca45 : Callable Try.prog 45 := ⟨_, Try.func45, by kernel_rfl, by kernel_rfl⟩
theorem ca46 : Callable Try.prog 46 := ⟨_, Try.func46, by kernel_rfl, by kernel_rfl⟩
theorem ca47 : Callable Try.prog 47 := ⟨_, Try.func47, by kernel_rfl, by kernel_rfl⟩
theorem ca48 : Callable Try.prog 48 := ⟨_, Try.func48, by kernel_rfl, by kernel_rfl⟩
theorem ca49 : Callable Try.prog 49 := ⟨_, Try.func49, by kernel_rfl, by kernel_rfl⟩
theorem ca50 : Callable Try.prog 50 := ⟨_, Try.func50, by kernel_rfl, by kernel_rfl⟩
theorem ca51 : Callable Try.prog 51 := ⟨_, Try.func51, by kernel_rfl, by kernel_rfl⟩
theorem ca52 : Callable Try.prog 52 := ⟨_, Try.func52, by kernel_rfl, by kernel_rfl⟩
theorem ca53 : Callable Try.prog 53 := ⟨_, Try.func53, by kernel_rfl, by kernel_rfl⟩
theorem ca54 : Callable Try.prog 54 := ⟨_, Try.func54, by kernel_rfl, by kernel_rfl⟩
theorem ca55 : Callable Try.prog 55 := ⟨_, Try.func55, by kernel_rfl, by kernel_rfl⟩
theorem ca56 : Callable Try.prog 56 := ⟨_, Try.func56, by kernel_rfl, by kernel_rfl⟩
theorem ca57 : Callable Try.prog 57 := ⟨_, Try.func57, by kernel_rfl, by kernel_rfl⟩
theorem ca58 : Callable Try.prog 58 := ⟨_, Try.func58, by kernel_rfl, by kernel_rfl⟩
theorem ca59 : Callable Try.prog 59 := ⟨_, Try.func59, by kernel_rfl, by kernel_rfl⟩
theorem ca60 : Callable Try.prog 60 := ⟨_, Try.func60, by kernel_rfl, by kernel_rfl⟩
theorem ca61 : Callable Try.prog 61 := ⟨_, Try.func61, by kernel_rfl, by kernel_rfl⟩
theorem ca62 : Callable Try.prog 62 := ⟨_, Try.func62, by kernel_rfl, by kernel_rfl⟩
theorem ca63 : Callable Try.prog 63 := ⟨_, Try.func63, by kernel_rfl, by kernel_rfl⟩
theorem ca64 : Callable Try.prog 64 := ⟨_, Try.func64, by kernel_rfl, by kernel_rfl⟩
theorem ca65 : Callable Try.prog 65 := ⟨_, Try.func65, by kernel_rfl, by kernel_rfl⟩
theorem ca66 : Callable Try.prog 66 := ⟨_, Try.func66, by kernel_rfl, by kernel_rfl⟩
theorem ca67 : Callable Try.prog 67 := ⟨_, Try.func67, by kernel_rfl, by kernel_rfl⟩
theorem ca68 : Callable Try.prog 68 := ⟨_, Try.func68, by kernel_rfl, by kernel_rfl⟩
theorem ca69 : Callable Try.prog 69 := ⟨_, Try.func69, by kernel_rfl, by kernel_rfl⟩
theorem ca70 : Callable Try.prog 70 := ⟨_, Try.func70, by kernel_rfl, by kernel_rfl⟩
theorem ca71 : Callable Try.prog 71 := ⟨_, Try.func71, by kernel_rfl, by kernel_rfl⟩
theorem ca72 : Callable Try.prog 72 := ⟨_, Try.func72, by kernel_rfl, by kernel_rfl⟩
theorem ca73 : Callable Try.prog 73 := ⟨_, Try.func73, by kernel_rfl, by kernel_rfl⟩
theorem ca74 : Callable Try.prog 74 := ⟨_, Try.func74, by kernel_rfl, by kernel_rfl⟩
theorem ca75 : Callable Try.prog 75 := ⟨_, Try.func75, by kernel_rfl, by kernel_rfl⟩
theorem ca76 : Callable Try.prog 76 := ⟨_, Try.func76, by kernel_rfl, by kernel_rfl⟩
theorem ca77 : Callable Try.prog 77 := ⟨_, Try.func77, by kernel_rfl, by kernel_rfl⟩
theorem ca78 : Callable Try.prog 78 := ⟨_, Try.func78, by kernel_rfl, by kernel_rfl⟩
theorem ca79 : Callable Try.prog 79 := ⟨_, Try.func79, by kernel_rfl, by kernel_rfl⟩
theorem ca80 : Callable Try.prog 80 := ⟨_, Try.func80, by kernel_rfl, by kernel_rfl⟩
theorem ca81 : Callable Try.prog 81 := ⟨_, Try.func81, by kernel_rfl, by kernel_rfl⟩
theorem ca82 : Callable Try.prog 82 := ⟨_, Try.func82, by kernel_rfl, by kernel_rfl⟩
theorem ca83 : Callable Try.prog 83 := ⟨_, Try.func83, by kernel_rfl, by kernel_rfl⟩
theorem ca84 : Callable Try.prog 84 := ⟨_, Try.func84, by kernel_rfl, by kernel_rfl⟩
theorem ca85 : Callable Try.prog 85 := ⟨_, Try.func85, by kernel_rfl, by kernel_rfl⟩
theorem ca86 : Callable Try.prog 86 := ⟨_, Try.func86, by kernel_rfl, by kernel_rfl⟩
theorem ca87 : Callable Try.prog 87 := ⟨_, Try.func87, by kernel_rfl, by kernel_rfl⟩
theorem ca88 : Callable Try.prog 88 := ⟨_, Try.func88, by kernel_rfl, by kernel_rfl⟩
theorem ca89 : Callable Try.prog 89 := ⟨_, Try.func89, by kernel_rfl, by kernel_rfl⟩
theorem ca90 : Callable Try.prog 90 := ⟨_, Try.func90, by kernel_rfl, by kernel_rfl⟩
theorem ca91 : Callable Try.prog 91 := ⟨_, Try.func91, by kernel_rfl, by kernel_rfl⟩
theorem ca92 : Callable Try.prog 92 := ⟨_, Try.func92, by kernel_rfl, by kernel_rfl⟩
theorem ca93 : Callable Try.prog 93 := ⟨_, Try.func93, by kernel_rfl, by kernel_rfl⟩
theorem ca94 : Callable Try.prog 94 := ⟨_, Try.func94, by kernel_rfl, by kernel_rfl⟩
theorem ca95 : Callable Try.prog 95 := ⟨_, Try.func95, by kernel_rfl, by kernel_rfl⟩
theorem ca96 : Callable Try.prog 96 := ⟨_, Try.func96, by kernel_rfl, by kernel_rfl⟩
theorem ca97 : Callable Try.prog 97 := ⟨_, Try.func97, by kernel_rfl, by kernel_rfl⟩
theorem ca98 : Callable Try.prog 98 := ⟨_, Try.func98, by kernel_rfl, by kernel_rfl⟩
theorem ca99 : Callable Try.prog 99 := ⟨_, Try.func99, by kernel_rfl, by kernel_rfl⟩
theorem ca100 : Callable Try.prog 100 := ⟨_, Try.func100, by kernel_rfl, by kernel_rfl⟩
theorem ca101 : Callable Try.prog 101 := ⟨_, Try.func101, by kernel_rfl, by kernel_rfl⟩
theorem ca102 : Callable Try.prog 102 := ⟨_, Try.func102, by kernel_rfl, by kernel_rfl⟩
theorem ca103 : Callable Try.prog 103 := ⟨_, Try.func103, by kernel_rfl, by kernel_rfl⟩
theorem ca104 : Callable Try.prog 104 := ⟨_, Try.func104, by kernel_rfl, by kernel_rfl⟩
theorem ca105 : Callable Try.prog 105 := ⟨_, Try.func105, by kernel_rfl, by kernel_rfl⟩
theorem ca106 : Callable Try.prog 106 := ⟨_, Try.func106, by kernel_rfl, by kernel_rfl⟩
theorem ca107 : Callable Try.prog 107 := ⟨_, Try.func107, by kernel_rfl, by kernel_rfl⟩
theorem ca108 : Callable Try.prog 108 := ⟨_, Try.func108, by kernel_rfl, by kernel_rfl⟩
theorem ca109 : Callable Try.prog 109 := ⟨_, Try.func109, by kernel_rfl, by kernel_rfl⟩
theorem ca110 : Callable Try.prog 110 := ⟨_, Try.func110, by kernel_rfl, by kernel_rfl⟩
theorem ca111 : Callable Try.prog 111 := ⟨_, Try.func111, by kernel_rfl, by kernel_rfl⟩
theorem ca112 : Callable Try.prog 112 := ⟨_, Try.func112, by kernel_rfl, by kernel_rfl⟩
theorem ca113 : Callable Try.prog 113 := ⟨_, Try.func113, by kernel_rfl, by kernel_rfl⟩
theorem ca114 : Callable Try.prog 114 := ⟨_, Try.func114, by kernel_rfl, by kernel_rfl⟩
theorem ca115 : Callable Try.prog 115 := ⟨_, Try.func115, by kernel_rfl, by kernel_rfl⟩
theorem ca116 : Callable Try.prog 116 := ⟨_, Try.func116, by kernel_rfl, by kernel_rfl⟩
theorem ca117 : Callable Try.prog 117 := ⟨_, Try.func117, by kernel_rfl, by kernel_rfl⟩
theorem ca118 : Callable Try.prog 118 := ⟨_, Try.func118, by kernel_rfl, by kernel_rfl⟩
theorem ca119 : Callable Try.prog 119 := ⟨_, Try.func119, by kernel_rfl, by kernel_rfl⟩
theorem ca120 : Callable Try.prog 120 := ⟨_, Try.func120, by kernel_rfl, by kernel_rfl⟩
theorem ca121 : Callable Try.prog 121 := ⟨_, Try.func121, by kernel_rfl, by kernel_rfl⟩
theorem ca122 : Callable Try.prog 122 := ⟨_, Try.func122, by kernel_rfl, by kernel_rfl⟩
theorem ca123 : Callable Try.prog 123 := ⟨_, Try.func123, by kernel_rfl, by kernel_rfl⟩
theorem ca124 : Callable Try.prog 124 := ⟨_, Try.func124, by kernel_rfl, by kernel_rfl⟩
theorem ca125 : Callable Try.prog 125 := ⟨_, Try.func125, by kernel_rfl, by kernel_rfl⟩
theorem ca126 : Callable Try.prog 126 := ⟨_, Try.func126, by kernel_rfl, by kernel_rfl⟩
theorem ca127 : Callable Try.prog 127 := ⟨_, Try.func127, by kernel_rfl, by kernel_rfl⟩
theorem ca128 : Callable Try.prog 128 := ⟨_, Try.func128, by kernel_rfl, by kernel_rfl⟩
theorem ca129 : Callable Try.prog 129 := ⟨_, Try.func129, by kernel_rfl, by kernel_rfl⟩
theorem ca130 : Callable Try.prog 130 := ⟨_, Try.func130, by kernel_rfl, by kernel_rfl⟩
theorem ca131 : Callable Try.prog 131 := ⟨_, Try.func131, by kernel_rfl, by kernel_rfl⟩
theorem ca132 : Callable Try.prog 132 := ⟨_, Try.func132, by kernel_rfl, by kernel_rfl⟩
theorem ca133 : Callable Try.prog 133 := ⟨_, Try.func133, by kernel_rfl, by kernel_rfl⟩
theorem ca134 : Callable Try.prog 134 := ⟨_, Try.func134, by kernel_rfl, by kernel_rfl⟩
theorem ca135 : Callable Try.prog 135 := ⟨_, Try.func135, by kernel_rfl, by kernel_rfl⟩
theorem ca136 : Callable Try.prog 136 := ⟨_, Try.func136, by kernel_rfl, by kernel_rfl⟩
theorem ca137 : Callable Try.prog 137 := ⟨_, Try.func137, by kernel_rfl, by kernel_rfl⟩
theorem ca138 : Callable Try.prog 138 := ⟨_, Try.func138, by kernel_rfl, by kernel_rfl⟩
theorem ca139 : Callable Try.prog 139 := ⟨_, Try.func139, by kernel_rfl, by kernel_rfl⟩
theorem ca140 : Callable Try.prog 140 := ⟨_, Try.func140, by kernel_rfl, by kernel_rfl⟩
theorem ca141 : Callable Try.prog 141 := ⟨_, Try.func141, by kernel_rfl, by kernel_rfl⟩
theorem ca142 : Callable Try.prog 142 := ⟨_, Try.func142, by kernel_rfl, by kernel_rfl⟩
theorem ca143 : Callable Try.prog 143 := ⟨_, Try.func143, by kernel_rfl, by kernel_rfl⟩
theorem ca144 : Callable Try.prog 144 := ⟨_, Try.func144, by kernel_rfl, by kernel_rfl⟩
theorem ca145 : Callable Try.prog 145 := ⟨_, Try.func145, by kernel_rfl, by kernel_rfl⟩
theorem ca146 : Callable Try.prog 146 := ⟨_, Try.func146, by kernel_rfl, by kernel_rfl⟩
theorem ca147 : Callable Try.prog 147 := ⟨_, Try.func147, by kernel_rfl, by kernel_rfl⟩
theorem ca148 : Callable Try.prog 148 := ⟨_, Try.func148, by kernel_rfl, by kernel_rfl⟩
theorem ca149 : Callable Try.prog 149 := ⟨_, Try.func149, by kernel_rfl, by kernel_rfl⟩
theorem ca150 : Callable Try.prog 150 := ⟨_, Try.func150, by kernel_rfl, by kernel_rfl⟩
theorem ca151 : Callable Try.prog 151 := ⟨_, Try.func151, by kernel_rfl, by kernel_rfl⟩
theorem ca152 : Callable Try.prog 152 := ⟨_, Try.func152, by kernel_rfl, by kernel_rfl⟩
theorem ca153 : Callable Try.prog 153 := ⟨_, Try.func153, by kernel_rfl, by kernel_rfl⟩
theorem ca154 : Callable Try.prog 154 := ⟨_, Try.func154, by kernel_rfl, by kernel_rfl⟩
theorem ca155 : Callable Try.prog 155 := ⟨_, Try.func155, by kernel_rfl, by kernel_rfl⟩
theorem ca156 : Callable Try.prog 156 := ⟨_, Try.func156, by kernel_rfl, by kernel_rfl⟩
theorem ca157 : Callable Try.prog 157 := ⟨_, Try.func157, by kernel_rfl, by kernel_rfl⟩
theorem ca158 : Callable Try.prog 158 := ⟨_, Try.func158, by kernel_rfl, by kernel_rfl⟩
theorem ca159 : Callable Try.prog 159 := ⟨_, Try.func159, by kernel_rfl, by kernel_rfl⟩
theorem ca161 : Callable Try.prog 161 := ⟨_, Try.func161, by kernel_rfl, by kernel_rfl⟩
theorem ca162 : Callable Try.prog 162 := ⟨_, Try.func162, by kernel_rfl, by kernel_rfl⟩
theorem ca163 : Callable Try.prog 163 := ⟨_, Try.func163, by kernel_rfl, by kernel_rfl⟩
theorem ca165 : Callable Try.prog 165 := ⟨_, Try.func165, by kernel_rfl, by kernel_rfl⟩
theorem ca166 : Callable Try.prog 166 := ⟨_, Try.func166, by kernel_rfl, by kernel_rfl⟩
theorem ca167 : Callable Try.prog 167 := ⟨_, Try.func167, by kernel_rfl, by kernel_rfl⟩
theorem ca168 : Callable Try.prog 168 := ⟨_, Try.func168, by kernel_rfl, by kernel_rfl⟩
theorem ca169 : Callable Try.prog 169 := ⟨_, Try.func169, by kernel_rfl, by kernel_rfl⟩
theorem ca170 : Callable Try.prog 170 := ⟨_, Try.func170, by kernel_rfl, by kernel_rfl⟩
theorem ca171 : Callable Try.prog 171 := ⟨_, Try.func171, by kernel_rfl, by kernel_rfl⟩
theorem ca172 : Callable Try.prog 172 := ⟨_, Try.func172, by kernel_rfl, by kernel_rfl⟩
theorem ca173 : Callable Try.prog 173 := ⟨_, Try.func173, by kernel_rfl, by kernel_rfl⟩
theorem ca174 : Callable Try.prog 174 := ⟨_, Try.func174, by kernel_rfl, by kernel_rfl⟩
theorem ca175 : Callable Try.prog 175 := ⟨_, Try.func175, by kernel_rfl, by kernel_rfl⟩
theorem ca176 : Callable Try.prog 176 := ⟨_, Try.func176, by kernel_rfl, by kernel_rfl⟩
theorem ca177 : Callable Try.prog 177 := ⟨_, Try.func177, by kernel_rfl, by kernel_rfl⟩
theorem ca178 : Callable Try.prog 178 := ⟨_, Try.func178, by kernel_rfl, by kernel_rfl⟩
theorem ca179 : Callable Try.prog 179 := ⟨_, Try.func179, by kernel_rfl, by kernel_rfl⟩
theorem ca180 : Callable Try.prog 180 := ⟨_, Try.func180, by kernel_rfl, by kernel_rfl⟩
theorem ca182 : Callable Try.prog 182 := ⟨_, Try.func182, by kernel_rfl, by kernel_rfl⟩
theorem ca183 : Callable Try.prog 183 := ⟨_, Try.func183, by kernel_rfl, by kernel_rfl⟩
theorem ca184 : Callable Try.prog 184 := ⟨_, Try.func184, by kernel_rfl, by kernel_rfl⟩
theorem ca185 : Callable Try.prog 185 := ⟨_, Try.func185, by kernel_rfl, by kernel_rfl⟩
theorem ca186 : Callable Try.prog 186 := ⟨_, Try.func186, by kernel_rfl, by kernel_rfl⟩
theorem ca187 : Callable Try.prog 187 := ⟨_, Try.func187, by kernel_rfl, by kernel_rfl⟩
theorem ca188 : Callable Try.prog 188 := ⟨_, Try.func188, by kernel_rfl, by kernel_rfl⟩
theorem ca189 : Callable Try.prog 189 := ⟨_, Try.func189, by kernel_rfl, by kernel_rfl⟩
theorem ca190 : Callable Try.prog 190 := ⟨_, Try.func190, by kernel_rfl, by kernel_rfl⟩
theorem ca191 : Callable Try.prog 191 := ⟨_, Try.func191, by kernel_rfl, by kernel_rfl⟩
theorem ca192 : Callable Try.prog 192 := ⟨_, Try.func192, by kernel_rfl, by kernel_rfl⟩
theorem ca193 : Callable Try.prog 193 := ⟨_, Try.func193, by kernel_rfl, by kernel_rfl⟩
theorem ca194 : Callable Try.prog 194 := ⟨_, Try.func194, by kernel_rfl, by kernel_rfl⟩
theorem ca195 : Callable Try.prog 195 := ⟨_, Try.func195, by kernel_rfl, by kernel_rfl⟩
theorem ca196 : Callable Try.prog 196 := ⟨_, Try.func196, by kernel_rfl, by kernel_rfl⟩
theorem ca197 : Callable Try.prog 197 := ⟨_, Try.func197, by kernel_rfl, by kernel_rfl⟩
theorem ca198 : Callable Try.prog 198 := ⟨_, Try.func198, by kernel_rfl, by kernel_rfl⟩
theorem ca199 : Callable Try.prog 199 := ⟨_, Try.func199, by kernel_rfl, by kernel_rfl⟩
theorem ca200 : Callable Try.prog 200 := ⟨_, Try.func200, by kernel_rfl, by kernel_rfl⟩
theorem ca201 : Callable Try.prog 201 := ⟨_, Try.func201, by kernel_rfl, by kernel_rfl⟩
theorem ca202 : Callable Try.prog 202 := ⟨_, Try.func202, by kernel_rfl, by kernel_rfl⟩
theorem ca203 : Callable Try.prog 203 := ⟨_, Try.func203, by kernel_rfl, by kernel_rfl⟩
theorem ca204 : Callable Try.prog 204 := ⟨_, Try.func204, by kernel_rfl, by kernel_rfl⟩
theorem ca205 : Callable Try.prog 205 := ⟨_, Try.func205, by kernel_rfl, by kernel_rfl⟩
theorem ca206 : Callable Try.prog 206 := ⟨_, Try.func206, by kernel_rfl, by kernel_rfl⟩
theorem ca207 : Callable Try.prog 207 := ⟨_, Try.func207, by kernel_rfl, by kernel_rfl⟩
theorem ca208 : Callable Try.prog 208 := ⟨_, Try.func208, by kernel_rfl, by kernel_rfl⟩
theorem ca209 : Callable Try.prog 209 := ⟨_, Try.func209, by kernel_rfl, by kernel_rfl⟩
theorem ca210 : Callable Try.prog 210 := ⟨_, Try.func210, by kernel_rfl, by kernel_rfl⟩
theorem ca211 : Callable Try.prog 211 := ⟨_, Try.func211, by kernel_rfl, by kernel_rfl⟩
theorem ca212 : Callable Try.prog 212 := ⟨_, Try.func212, by kernel_rfl, by kernel_rfl⟩
theorem ca213 : Callable Try.prog 213 := ⟨_, Try.func213, by kernel_rfl, by kernel_rfl⟩
theorem ca214 : Callable Try.prog 214 := ⟨_, Try.func214, by kernel_rfl, by kernel_rfl⟩
theorem ca215 : Callable Try.prog 215 := ⟨_, Try.func215, by kernel_rfl, by kernel_rfl⟩
theorem ca216 : Callable Try.prog 216 := ⟨_, Try.func216, by kernel_rfl, by kernel_rfl⟩
theorem ca217 : Callable Try.prog 217 := ⟨_, Try.func217, by kernel_rfl, by kernel_rfl⟩
theorem ca218 : Callable Try.prog 218 := ⟨_, Try.func218, by kernel_rfl, by kernel_rfl⟩
theorem ca219 : Callable Try.prog 219 := ⟨_, Try.func219, by kernel_rfl, by kernel_rfl⟩
theorem ca220 : Callable Try.prog 220 := ⟨_, Try.func220, by kernel_rfl, by kernel_rfl⟩
theorem ca221 : Callable Try.prog 221 := ⟨_, Try.func221, by kernel_rfl, by kernel_rfl⟩
theorem ca222 : Callable Try.prog 222 := ⟨_, Try.func222, by kernel_rfl, by kernel_rfl⟩
theorem ca223 : Callable Try.prog 223 := ⟨_, Try.func223, by kernel_rfl, by kernel_rfl⟩
theorem ca224 : Callable Try.prog 224 := ⟨_, Try.func224, by kernel_rfl, by kernel_rfl⟩
theorem ca225 : Callable Try.prog 225 := ⟨_, Try.func225, by kernel_rfl, by kernel_rfl⟩
theorem ca226 : Callable Try.prog 226 := ⟨_, Try.func226, by kernel_rfl, by kernel_rfl⟩
theorem ca227 : Callable Try.prog 227 := ⟨_, Try.func227, by kernel_rfl, by kernel_rfl⟩
theorem ca228 : Callable Try.prog 228 := ⟨_, Try.func228, by kernel_rfl, by kernel_rfl⟩
theorem ca229 : Callable Try.prog 229 := ⟨_, Try.func229, by kernel_rfl, by kernel_rfl⟩
theorem ca230 : Callable Try.prog 230 := ⟨_, Try.func230, by kernel_rfl, by kernel_rfl⟩
theorem ca231 : Callable Try.prog 231 := ⟨_, Try.func231, by kernel_rfl, by kernel_rfl⟩
theorem ca232 : Callable Try.prog 232 := ⟨_, Try.func232, by kernel_rfl, by kernel_rfl⟩
theorem mixed : Try.prog.follows .mixedOrders = true := by kernel_rfl
end Go.Q
namespace Go.Proofs
open Go.RowKit Go.Shelf
attribute [local go_sem] Oper.semAt_some
theorem cell_of {w : World} {b off : Nat} {v : Value} (h : w.cell? ⟨b, off, none⟩ = some v) : Go.Q.CellsAt [Go.Q.Hp.of w] b off [v] := by
  obtain ⟨b', o', e, hc⟩ := Go.Q.cells_row (w := w) (x := ⟨b, off, none⟩) (vs := [v]) (by simp) (fun i u hu => by
    match i, hu with
    | 0, hu => cases hu; rw [Go.Q.add_lit]; exact h
    | i + 1, hu => simp at hu)
  cases e
  exact hc
def bwLast (pre : List (Int × (Int × Int))) : Int := (pre.getLast?.getD (0, (0, 0))).2.2
theorem bwLast_snoc (pre : List (Int × (Int × Int))) (x : Int × (Int × Int)) : bwLast (pre ++ [x]) = x.2.2 := by simp [bwLast]
def bwFind (want : Int) (pre : List (Int × (Int × Int))) : Prop := ∀ x ∈ pre, x.2.1 ≠ want
theorem bwFind_snoc {want : Int} {pre : List (Int × (Int × Int))} {x : Int × (Int × Int)} (h : bwFind want pre) (hx : x.2.1 ≠ want) : bwFind want (pre ++ [x]) := fun y hy => (List.mem_append.1 hy).elim (h y) (fun e => by rw [List.mem_singleton.1 e]; exact hx)
def bwHit (want : Int) (pre : List (Int × (Int × Int))) : Prop := ∃ q x, pre = q ++ [x] ∧ bwFind want q ∧ x.2.1 = want
set_option maxRecDepth 100000 in
set_option maxHeartbeats 4000000 in
theorem from_in (n : Nat) (hn : 3 ≤ n) (kb nb noff nlen ncap : Nat) (c0 c1 c2 c3 c4 v5 : Value) (sa : Option Addr) (len cap : Nat) (zs : List (Int × Int)) (want : Int) (hreach : zs.length * 16 ≤ 140737488351232) (w : World)
    (hk : kb < w.heap.size) (hc6 : w.cell? ⟨kb, 6, none⟩ = some (.slice sa len cap)) (hI : bwHolds w.heap.size w (.slice sa len cap) zs) (hnb : nb < w.heap.size) (hnl : 0 < nlen) (hnm : nlen ≤ 1000000) (hno : w.cell? ⟨nb, noff + (nlen - 1), none⟩ = some (.int .i64 want)) :
    CallsIn Fence.wide n Try.prog 70 #[.pointer (some ⟨kb, 0, none⟩), .slice (some ⟨nb, noff, none⟩) nlen ncap] w fun e W' => (∃ k, k ≤ zs.length ∧ bwFind want (bwUpto (bwAt zs) k) ∧ ((k = zs.length ∧ e = .returned (.int .i64 (-1))) ∨ (∃ x, x = bwAt zs k ∧ k < zs.length ∧ x.2.1 = want ∧ e = .returned (.int .i64 x.2.2)))) ∧ Below w.heap.size w W' := by
  have h1 : 1 ≤ n := by omega
  have h3 : Fence.wide.fn 70 := trivial
  have h4 : Fence.wide.fn 117 := trivial
  have h5 : Fence.wide.fn 154 := trivial
  have hro : Fence.wide.round = none := rfl
  refine callsIn_of_wp_marks Try.func70 rfl h3 ?_ hro
  simp only [Try.ntmps70, List.size_toArray, List.length_cons, List.length_nil, Nat.reduceAdd, Nat.reduceSub, Array.replicate_succ, Array.replicate_zero, List.push_toArray, List.append_toArray, List.nil_append, List.cons_append]
  gi_wp2_with (gi_at_call 117; refine (bw_in Fence.wide (n - 1) h4 hro _ _ _ _).mono ?_; rintro e w' ⟨rfl, rfl⟩)
  have bN := Boxed.new w 54 (.slice (some ⟨nb, noff, none⟩) nlen ncap)
  have bR := Boxed.new (w.alloc (.cells #[.slice (some ⟨nb, noff, none⟩) nlen ncap] 54)) 3 (.int .i64 0)
  rw [World.size_alloc] at bR
  have bS := Boxed.new ((w.alloc (.cells #[.slice (some ⟨nb, noff, none⟩) nlen ncap] 54)).alloc (.cells #[.int .i64 0] 3)) 33 (.slice sa len cap)
  rw [World.size_alloc, World.size_alloc] at bS
  have hB0 : Below w.heap.size w (((w.alloc (.cells #[.slice (some ⟨nb, noff, none⟩) nlen ncap] 54)).alloc (.cells #[.int .i64 0] 3)).alloc (.cells #[.slice sa len cap] 33)) := (((Below.refl _ w).alloc (Nat.le_refl _) _).alloc (by simp) _).alloc (by simp; omega) _
  have bN' := (bN.alloc (.cells #[.int .i64 0] 3)).alloc (.cells #[.slice sa len cap] 33)
  have bR' := bR.alloc (.cells #[.slice sa len cap] 33)
  obtain ⟨W0, hW0⟩ : ∃ W0, (((w.alloc (.cells #[.slice (some ⟨nb, noff, none⟩) nlen ncap] 54)).alloc (.cells #[.int .i64 0] 3)).alloc (.cells #[.slice sa len cap] 33)) = W0 := ⟨_, rfl⟩
  have hsz : W0.heap.size = w.heap.size + 3 := by rw [← hW0]; simp
  rw [hW0] at bS hB0 bN' bR' ⊢
  have hI0 : bwHolds (w.heap.size + 3) W0 (.slice sa len cap) zs := by
    rcases hI.below hB0 with h | ⟨b, off, cap', e, hb, hc⟩
    · exact .inl h
    · exact .inr ⟨b, off, cap', e, by omega, hc⟩
  refine wpIn_rangeFunc_ownH hro h1 (gf := 154) (lb := #[.pointer (some ⟨w.heap.size + 1 + 1, 0, none⟩)]) rfl h5 (enters_of Try.func154 (by kernel_rfl) rfl)
    (bw_stops Fence.wide (n - 1) h5 hro (by omega) (w.heap.size + 1 + 1) (w.heap.size + 3) _ zs hreach W0 (by omega) (by omega) bS.cell hI0) belowK_t (belowK_b (by omega)) (Below.refl _ _) (fun _ => rfl)
    (fun pre W => (((bwFind want pre ∧ Boxed W (w.heap.size + 1) 3 (.int .i64 0)) ∧ Boxed W w.heap.size 54 (.slice (some ⟨nb, noff, none⟩) nlen ncap)) ∧ Boxed W (w.heap.size + 1 + 1) 33 (.slice sa len cap)) ∧ Below w.heap.size w W)
    (fun c pre W => ((c = .ret ∧ bwHit want pre) ∧ Boxed W (w.heap.size + 1) 3 (.int .i64 (bwLast pre))) ∧ Below w.heap.size w W)
    (OwnFrom.and (OwnFrom.and (OwnFrom.and (OwnFrom.and (ownFrom_pure _ _) (Own.from (boxed_own _ _ _) _)) (Own.from (boxed_own _ _ _) _)) (Own.from (boxed_own _ _ _) _)) (ownFrom_below (Nat.le_refl _) (by omega)))
    (fun c => OwnFrom.and (OwnFrom.and (ownFrom_pure _ _) (Own.from (boxed_own _ _ (fun pre => Value.int .i64 (bwLast pre))) _)) (ownFrom_below (Nat.le_refl _) (by omega)))
    ⟨⟨⟨⟨(fun x hx => nomatch hx), bR'⟩, bN'⟩, bS⟩, hB0⟩
    (fun x a' W => ∃ Bx, w.heap.size + 2 < Bx ∧ (W.cell? ⟨Bx, 0, none⟩ = some (.int .i64 x.2.1) ∧ W.cell? ⟨Bx, 1, none⟩ = some (.int .i64 x.2.2)) ∧ a' = { tmps := #[.pointer (some ⟨kb, 0, none⟩), .slice (some ⟨nb, noff, none⟩) nlen ncap, undef, .pointer (some ⟨w.heap.size, 0, none⟩), .pointer (some ⟨w.heap.size + 1, 0, none⟩), undef, .pointer (some ⟨Bx, 0, none⟩), .slice (some ⟨nb, noff, none⟩) nlen ncap, .int .i64 (nlen : Int), .bool false, .pointer (some ⟨kb, 0, none⟩), .pointer (some ⟨kb, 0, none⟩), .pointer (some ⟨kb, 0, none⟩), .pointer (some ⟨kb, 6, none⟩), .slice sa len cap, .func (.func 154) #[] #[.pointer (some ⟨w.heap.size + 1 + 1, 0, none⟩)], .int .i64 x.1, .agg #[.int .i64 x.2.1, .int .i64 x.2.2], undef, undef, undef, undef, undef, undef, undef, undef, undef, undef, undef], defers := [] })
    (fun x a' _ X Y row hs hg hr => by obtain ⟨Bx, e1, ⟨e2, e3⟩, e4⟩ := hs; exact ⟨Bx, e1, ⟨cell_kept e2 hg (fun r e => (hr r e).2), cell_kept e3 hg (fun r e => (hr r e).2)⟩, e4⟩)
    ?assign ?body ?done ?stop
  case assign =>
    rintro l pre x W K ⟨⟨⟨⟨hp, bR1⟩, bN1⟩, bS1⟩, hB1⟩ hK
    gi_wp2
    have hlS := bS1.lt
    have hnew := World.alloc_heap_new W (.cells #[.int .i64 x.2.1, .int .i64 x.2.2] 39)
    exact hK _ _ ((KeepsOthers.alloc _ _).from _) ((Below.refl _ W).alloc (by omega) _) ⟨⟨⟨⟨hp, bR1.alloc _⟩, bN1.alloc _⟩, bS1.alloc _⟩, hB1.alloc hB1.size _⟩ ⟨W.heap.size, by omega, ⟨by unfold World.cell?; rw [hnew]; rfl, by unfold World.cell?; rw [hnew]; rfl⟩, rfl⟩
  case body =>
    rintro l pre x a' W hl ⟨r, hr⟩ ⟨⟨⟨⟨hp, bR1⟩, bN1⟩, bS1⟩, hB1⟩ ⟨Bx, hBx, ⟨cx1, cx2⟩, rfl⟩ hlt
    have cN := bN1.cell
    have cR := bR1.cell
    have fR := bR1.frozen
    have cw := (hB1.cell (p := ⟨nb, noff + (nlen - 1), none⟩) hnb).trans hno
    gi_wp2
    have hmx : Try.prog.follows .mixedOrders = true := by kernel_rfl
    rename_i Q_ K_ hK_
    have H1 := Go.Q.Has.start { W with drawn := W.drawn + 1 }
    refine Go.Q.region_in (N := 29) (r := Go.Q.base [.pointer (some ⟨kb, 0, none⟩), .slice (some ⟨nb, noff, none⟩) nlen ncap, undef, .pointer (some ⟨w.heap.size, 0, none⟩), .pointer (some ⟨w.heap.size + 1, 0, none⟩), undef, .pointer (some ⟨Bx, 0, none⟩), .slice (some ⟨nb, noff, none⟩) nlen ncap, .int .i64 (nlen : Int), .bool false, .pointer (some ⟨kb, 0, none⟩), .pointer (some ⟨kb, 0, none⟩), .pointer (some ⟨kb, 0, none⟩), .pointer (some ⟨kb, 6, none⟩), .slice sa len cap, .func (.func 154) #[] #[.pointer (some ⟨w.heap.size + 1 + 1, 0, none⟩)], .int .i64 x.1, .agg #[.int .i64 x.2.1, .int .i64 x.2.2], undef, undef, undef, undef, undef, undef, undef, undef, undef, undef, undef]) hmx (by kernel_rfl) (by kernel_rfl) (by kernel_rfl) (by rintro ⟨_, _, h_⟩; exact h_) ?_
    refine Go.Q.Rest.phaseA (fun w_ => Go.Q.Has { W with drawn := W.drawn + 1 } w_ [[Go.Q.Hp.of { W with drawn := W.drawn + 1 }]]) 0 9 9 rfl (by decide) (by kernel_rfl) ?_
    refine Go.Q.a_op 0 rfl (by kernel_rfl) (fun w_ h_ => Go.Q.o_fieldAddr (k := 0) (fun _ => by kernel_rfl) rfl ⟨rfl, rfl⟩) ?_
    refine Go.Q.a_op 1 rfl (by kernel_rfl) (fun w_ h_ => Go.Q.o_load1 (v := .int .i64 x.2.1) Try.underlying3 rfl rfl h_ (Go.Q.seg_sub 0 rfl) (cell_of (w := { W with drawn := W.drawn + 1 }) cx1) ⟨rfl, rfl⟩) ?_
    refine Go.Q.a_op 2 rfl (by kernel_rfl) (fun w_ h_ => Go.Q.o_load1 (v := .slice (some ⟨nb, noff, none⟩) nlen ncap) Try.underlying54 rfl rfl h_ (Go.Q.seg_sub 0 rfl) (cell_of (w := { W with drawn := W.drawn + 1 }) cN) ⟨rfl, rfl⟩) ?_
    refine Go.Q.a_op 3 rfl (by kernel_rfl) (fun w_ h_ => Go.Q.o_load1 (v := .slice (some ⟨nb, noff, none⟩) nlen ncap) Try.underlying54 rfl rfl h_ (Go.Q.seg_sub 0 rfl) (cell_of (w := { W with drawn := W.drawn + 1 }) cN) ⟨rfl, rfl⟩) ?_
    refine Go.Q.a_op 4 rfl (by kernel_rfl) (fun w_ h_ => Go.Q.o_len Try.underlying54 rfl ⟨rfl, rfl⟩) ?_
    refine Go.Q.a_op 5 rfl (by kernel_rfl) (fun w_ h_ => Go.Q.o_sub (a := (nlen : Int)) (b := 1) (c := (nlen : Int) - 1) rfl rfl (Go.Q.w64 (by omega) (by omega)) ⟨rfl, rfl⟩) ?_
    refine Go.Q.a_op 6 rfl (by kernel_rfl) (fun w_ h_ => Go.Q.o_ixAt Try.underlying54 Go.Q.ti3 rfl rfl (by omega) (by omega) ⟨rfl, rfl⟩) ?_
    refine Go.Q.a_op 7 rfl (by kernel_rfl) (fun w_ h_ => Go.Q.o_load1 (v := .int .i64 want) Try.underlying3 rfl rfl h_ (Go.Q.seg_sub 0 rfl) (cell_of (w := { W with drawn := W.drawn + 1 }) (by rw [show noff + ((nlen : Int) - 1).toNat = noff + (nlen - 1) by omega]; exact cw)) ⟨rfl, rfl⟩) ?_
    refine Go.Q.a_op 8 rfl (by kernel_rfl) (fun w_ h_ => Go.Q.o_eql (a := x.2.1) (b := want) rfl rfl ⟨rfl, rfl⟩) ?_
    refine Go.Q.a_done (by kernel_rfl) H1 ?_
    refine Go.Q.Rest.done (by kernel_rfl) ?_
    have hfin : Go.Q.fr 29 (Go.Q.upd (Go.Q.upd (Go.Q.upd (Go.Q.upd (Go.Q.upd (Go.Q.upd (Go.Q.upd (Go.Q.upd (Go.Q.upd (Go.Q.base [.pointer (some ⟨kb, 0, none⟩), .slice (some ⟨nb, noff, none⟩) nlen ncap, undef, .pointer (some ⟨w.heap.size, 0, none⟩), .pointer (some ⟨w.heap.size + 1, 0, none⟩), undef, .pointer (some ⟨Bx, 0, none⟩), .slice (some ⟨nb, noff, none⟩) nlen ncap, .int .i64 (nlen : Int), .bool false, .pointer (some ⟨kb, 0, none⟩), .pointer (some ⟨kb, 0, none⟩), .pointer (some ⟨kb, 0, none⟩), .pointer (some ⟨kb, 6, none⟩), .slice sa len cap, .func (.func 154) #[] #[.pointer (some ⟨w.heap.size + 1 + 1, 0, none⟩)], .int .i64 x.1, .agg #[.int .i64 x.2.1, .int .i64 x.2.2], undef, undef, undef, undef, undef, undef, undef, undef, undef, undef, undef]) 18 (.pointer (some ⟨Bx, 0, none⟩))) 19 (.int .i64 x.2.1)) 20 (.slice (some ⟨nb, noff, none⟩) nlen ncap)) 21 (.slice (some ⟨nb, noff, none⟩) nlen ncap)) 22 (.int .i64 (nlen : Int))) 23 (.int .i64 ((nlen : Int) - 1))) 24 (.pointer (some ⟨nb, noff + ((nlen : Int) - 1).toNat, none⟩))) 25 (.int .i64 want)) 26 (.bool (decide (x.2.1 = want)))) = ({ tmps := #[.pointer (some ⟨kb, 0, none⟩), .slice (some ⟨nb, noff, none⟩) nlen ncap, undef, .pointer (some ⟨w.heap.size, 0, none⟩), .pointer (some ⟨w.heap.size + 1, 0, none⟩), undef, .pointer (some ⟨Bx, 0, none⟩), .slice (some ⟨nb, noff, none⟩) nlen ncap, .int .i64 (nlen : Int), .bool false, .pointer (some ⟨kb, 0, none⟩), .pointer (some ⟨kb, 0, none⟩), .pointer (some ⟨kb, 0, none⟩), .pointer (some ⟨kb, 6, none⟩), .slice sa len cap, .func (.func 154) #[] #[.pointer (some ⟨w.heap.size + 1 + 1, 0, none⟩)], .int .i64 x.1, .agg #[.int .i64 x.2.1, .int .i64 x.2.2], .pointer (some ⟨Bx, 0, none⟩), .int .i64 x.2.1, .slice (some ⟨nb, noff, none⟩) nlen ncap, .slice (some ⟨nb, noff, none⟩) nlen ncap, .int .i64 (nlen : Int), .int .i64 ((nlen : Int) - 1), .pointer (some ⟨nb, noff + ((nlen : Int) - 1).toNat, none⟩), .int .i64 want, .bool (decide (x.2.1 = want)), undef, undef], defers := [] } : Act) := by kernel_rfl
    refine (hK_ _ { W with drawn := W.drawn + 1 } ?_)
    rw [hfin]
    have cx1' : World.cell? { W with drawn := W.drawn + 1 } { block := Bx, off := 0 } = some (Value.int IntKind.i64 x.snd.fst) := cx1
    have cx2' : World.cell? { W with drawn := W.drawn + 1 } { block := Bx, off := 1 } = some (Value.int IntKind.i64 x.snd.snd) := cx2
    have cR' : World.cell? { W with drawn := W.drawn + 1 } { block := w.heap.size + 1, off := 0 } = some (Value.int IntKind.i64 0) := cR
    have fR' : World.frozen? { W with drawn := W.drawn + 1 } { block := w.heap.size + 1, off := 0 } = false := fR
    have bR2 : Boxed { W with drawn := W.drawn + 1 } (w.heap.size + 1) 3 (.int .i64 0) := bR1
    have hkd : KeepsFrom W0.heap.size W { W with drawn := W.drawn + 1 } := (KeepsOthers.drew W).from _
    have hbd : ∀ n₀, n₀ ≤ W.heap.size → Below n₀ W { W with drawn := W.drawn + 1 } := fun n₀ hn => (Below.refl n₀ W).drew
    have hlS := bS1.lt
    by_cases hxw : x.2.1 = want
    · rw [decide_eq_true hxw]
      clear hfin hK_ K_
      gi_wp2
      exact ⟨hkd.trans ((KeepsOthers.setCell _ _ _).from _), ⟨⟨rfl, pre, x, rfl, hp, hxw⟩, by rw [bwLast_snoc]; exact bR2.set _⟩, (hB1.trans (hbd _ (by omega))).setCell (p := ⟨w.heap.size + 1, 0, none⟩) (by simp) _⟩
    · rw [decide_eq_false hxw]
      clear hfin hK_ K_
      gi_wp2
      exact ⟨hkd, hbd _ (by omega), ⟨⟨⟨bwFind_snoc hp hxw, bR2⟩, bN1⟩, bS1⟩, hB1.trans (hbd _ (by omega))⟩
  case done =>
    rintro D ys W hD rfl ⟨⟨⟨⟨hp, bR1⟩, bN1⟩, bS1⟩, hB1⟩ hK
    have cR := bR1.cell
    have fR := bR1.frozen
    gi_wp2
    have hK' := (KeepsOthers.setCell W ⟨w.heap.size + 1, 0, none⟩ (.int .i64 (-1))).same D _ hK rfl
    refine ⟨by simp, .inl ⟨_, _, rfl, run_takeDeferred hK', ?_⟩⟩
    have hc5 := cell_kept (bR1.set (.int .i64 (-1))).cell (grownBy_putObj' _ D (.deferred none)) (fun r e => by cases e; exact ⟨_, hK', rfl⟩)
    refine ⟨.int .i64 (-1), ?_, ⟨zs.length, Nat.le_refl _, hp, .inl ⟨rfl, rfl⟩⟩, (hB1.setCell (p := ⟨w.heap.size + 1, 0, none⟩) (by simp) _).trans (belowK_b (w := w) (Nat.le_refl _) _ D _ _ (by omega) hK' rfl rfl)⟩
    simp [results, Try.f70, go_sem, hc5]
  case stop =>
    rintro D c pre W hD hpre ⟨⟨⟨rfl, hh⟩, bR1⟩, hB1⟩ hK
    gi_wp2
    refine ⟨by simp, .inl ⟨_, _, rfl, run_takeDeferred hK, ?_⟩⟩
    have hc5 := cell_kept bR1.cell (grownBy_putObj' _ D (.deferred none)) (fun r e => by cases e; exact ⟨_, hK, rfl⟩)
    obtain ⟨k, hkl, rfl⟩ := hpre
    obtain ⟨q, x, hqx, hq, hx⟩ := hh
    cases k with
    | zero => exact absurd (congrArg List.length hqx) (by simp [bwUpto])
    | succ k =>
      rw [bwUpto_succ] at hqx
      obtain ⟨e1, e2⟩ := List.append_inj' hqx rfl
      cases e1
      have e3 : bwAt zs k = x := by simpa using e2
      cases e3
      refine ⟨.int .i64 (bwAt zs k).2.2, ?_, ⟨k, by omega, hq, .inr ⟨_, rfl, by omega, hx, rfl⟩⟩, hB1.trans (belowK_b (w := w) (Nat.le_refl _) W D _ _ (by omega) hK rfl rfl)⟩
      rw [bwUpto_succ, bwLast_snoc] at hc5
      simp [results, Try.f70, go_sem, hc5]
end Go.Proofs
namespace Go.Q
/-- a fact that omega does not look at -/
def Hide (p : Prop) : Prop := p
theorem rsl_ex4 (o sz : Nat) {i j m : Int} (h0 : 0 ≤ i) (h1 : i ≤ j) (h2 : j ≤ m) :
    ∃ o' n' c' : Nat, Hide (o' = if m = i then o else o + i.toNat * sz) ∧ (n' : Int) = j - i ∧ (c' : Int) = m - i ∧ (c' = 0 ∨ o' = o + i.toNat * sz) ∧ o' ≤ o + i.toNat * sz :=
  ⟨_, (j - i).toNat, (m - i).toNat, rfl, by omega, by omega, by split <;> omega, by split <;> omega⟩
theorem del_law {α : Type} {c c1 c2 : List α} {I N o1 n1 o2 m d o3 : Nat} (h1 : c1 = if 0 < m then c.take (o1 + n1 * 1) ++ (c.drop o2).take (m * 1) ++ c.drop d else c) (h2 : c2.take o3 = c1.take o3)
    (e1 : o1 + n1 = I) (e2 : m = 0 ∨ o2 = I + 1) (e3 : m = N - (I + 1)) (e4 : o3 = N - 1) (hI : I < N) (hN : N ≤ c.length) : c2.take (N - 1) = c.take I ++ (c.take N).drop (I + 1) := by
  rw [← e4, h2, h1]
  by_cases hm : 0 < m
  · obtain rfl : o2 = I + 1 := by omega
    rw [if_pos hm, Nat.mul_one, Nat.mul_one, e1, List.drop_take, e3]
    have l1 : (c.take I ++ (c.drop (I + 1)).take (N - (I + 1))).length = o3 := by simp only [List.length_append, List.length_take, List.length_drop]; omega
    rw [List.take_left' l1]
  · rw [if_neg hm, show o3 = I by omega, List.drop_of_length_le (by rw [List.length_take]; omega), List.append_nil]
theorem mem_part1 {α : Type} {c : List α} {u : α} {o a N : Nat} (h : u ∈ (c.drop o).take a) (hb : a = 0 ∨ o + a ≤ N) : u ∈ c.take N := by
  rcases hb with hb | hb
  · subst hb; simp at h
  · rw [List.take_drop] at h
    have h2 := List.mem_of_mem_drop h
    rw [show c.take (o + a) = (c.take N).take (o + a) by rw [List.take_take, Nat.min_eq_left hb]] at h2
    exact List.mem_of_mem_take h2
end Go.Q
namespace Go.Q
/-- ref.With: d: 'it is in already' -/
def withS (n : Int) : Bool → List Int → List Int
  | d, [] => if d then [] else [n]
  | d, x :: l => (if d = false ∧ n ≤ x then [n] else []) ++ (if x ≠ n then [x] else []) ++ withS n (d || decide (n ≤ x)) l
theorem withS_true (n : Int) : ∀ l : List Int, withS n true l = l.filter (fun x => decide (x ≠ n))
  | [] => rfl
  | x :: l => by
    rw [withS, Bool.true_or, withS_true n l, if_neg (by simp), List.nil_append]
    by_cases h : x = n
    · simp [h]
    · simp [h]
theorem withS_mem (n a : Int) : ∀ l : List Int, a ∈ withS n false l ↔ a = n ∨ a ∈ l
  | [] => by simp [withS]
  | x :: l => by
    rw [withS, Bool.false_or]
    by_cases h : n ≤ x
    · rw [decide_eq_true h, withS_true, if_pos ⟨rfl, h⟩]
      by_cases e : x = n
      · subst e; simp; grind
      · simp [e]; grind
    · rw [decide_eq_false h, if_neg (fun g => h g.2), if_pos (by omega)]
      simp [withS_mem n a l]; grind
theorem withS_sorted (n : Int) : ∀ l : List Int, l.Pairwise (· < ·) → (withS n false l).Pairwise (· < ·)
  | [], _ => by simp [withS]
  | x :: l, h => by
    have h2 := List.pairwise_cons.1 h
    rw [withS, Bool.false_or]
    by_cases g : n ≤ x
    · rw [decide_eq_true g, withS_true, if_pos ⟨rfl, g⟩]
      have hf := h2.2.filter (fun y => decide (y ≠ n))
      by_cases e : x = n
      · subst e; simp only [ne_eq, not_true, if_false, List.append_nil, List.singleton_append]
        exact List.pairwise_cons.2 ⟨fun a ha => h2.1 a ((List.mem_filter.1 ha).1), hf⟩
      · rw [if_pos e]
        refine List.pairwise_cons.2 ⟨fun a ha => ?_, List.pairwise_cons.2 ⟨fun a ha => h2.1 a ((List.mem_filter.1 ha).1), hf⟩⟩
        rcases List.mem_cons.1 ha with rfl | ha
        · omega
        · have := h2.1 a ((List.mem_filter.1 ha).1); omega
    · rw [decide_eq_false g, if_neg (fun k => g k.2), if_pos (by omega)]
      refine List.pairwise_cons.2 ⟨fun a ha => ?_, withS_sorted n l h2.2⟩
      rcases (withS_mem n a l).1 ha with rfl | ha
      · omega
      · exact h2.1 a ha
theorem withS_len (n : Int) : ∀ l : List Int, l.Pairwise (· < ·) → (withS n false l).length = l.length + (if n ∈ l then 0 else 1) ∧ (withS n true l).length + (if n ∈ l then 1 else 0) = l.length
  | [], _ => by simp [withS]
  | x :: l, h => by
    have h2 := List.pairwise_cons.1 h
    obtain ⟨i1, i2⟩ := withS_len n l h2.2
    rw [withS, withS, Bool.false_or, Bool.true_or]
    by_cases e : x = n
    · subst e
      have hn : x ∉ l := fun g => by have := h2.1 x g; omega
      rw [if_neg hn] at i1 i2
      simp; omega
    · have hm : n ∈ x :: l ↔ n ∈ l := by simp; omega
      simp only [hm, List.length_cons, if_pos e]
      by_cases g : n ≤ x
      · have hn : n ∉ l := fun k => by have := h2.1 n k; omega
        rw [decide_eq_true g, if_neg hn, if_neg hn, if_pos (by simp [g])]
        rw [if_neg hn] at i2
        simp; omega
      · rw [decide_eq_false g, if_neg (fun k => g k.2)]
        simp; omega
theorem with_step {n : Int} {b d : Bool} {l acc : List Int} {k : Nat} {x : Int} (h : withS n b l = acc ++ withS n d (l.drop k)) (hx : l[k]? = some x) :
    withS n b l = acc ++ ((if d = false ∧ n ≤ x then [n] else []) ++ (if x ≠ n then [x] else [])) ++ withS n (d || decide (n ≤ x)) (l.drop (k + 1)) := by
  rw [h, drop_of hx, withS]; simp [List.append_assoc]
/-- what With leaves, both ways -/
theorem with_mem {n a : Int} {b : Bool} {l : List Int} : a ∈ withS n (!b) l ↔ (if b = true then a = n ∨ a ∈ l else a ∈ l ∧ a ≠ n) := by
  cases b with
  | true => rw [if_pos rfl]; exact withS_mem n a l
  | false => rw [if_neg (by decide)]; show a ∈ withS n true l ↔ _; rw [withS_true]; simp
theorem with_sorted {n : Int} {b : Bool} {l : List Int} (h : l.Pairwise (· < ·)) : (withS n (!b) l).Pairwise (· < ·) := by
  cases b with
  | true => exact withS_sorted n l h
  | false => show (withS n true l).Pairwise _; rw [withS_true]; exact h.filter _
/-- the first and the last one, or 0 -/
def firstS (l : List Int) : Int := (l[0]?).getD 0
def lastS (l : List Int) : Int := (l[l.length - 1]?).getD 0
theorem firstS_of {l : List Int} {x : Int} (h : l[0]? = some x) : firstS l = x := by rw [firstS, h]; rfl
theorem lastS_of {l : List Int} {x : Int} {k : Nat} (h : l[k]? = some x) (hk : k = l.length - 1) : lastS l = x := by subst hk; rw [lastS, h]; rfl
theorem ends_nil {l : List Int} (h : l.length = 0) : firstS l = 0 ∧ lastS l = 0 := by
  obtain rfl := List.eq_nil_of_length_eq_zero h; exact ⟨rfl, rfl⟩
/-- what isn't below one -/
theorem from_eq {l : List Int} {p : Nat} {x : Int} (h1 : ∀ a ∈ l.take p, a < x) (h2 : ∀ a ∈ l.drop p, x ≤ a) : l.drop p = l.filter (fun a => decide (x ≤ a)) := by
  conv => rhs; rw [← List.take_append_drop p l, List.filter_append]
  rw [List.filter_eq_nil_iff.2 (fun a ha => by have := h1 a ha; simp; omega), List.nil_append, List.filter_eq_self.2 (fun a ha => by have := h2 a ha; simp; omega)]
/-- taking out the one that is there -/
theorem del_facts {now : List Int} {p : Nat} {x : Int} (hs : now.Pairwise (· < ·)) (h1 : ∀ a ∈ now.take p, a < x) (h2 : ∀ a ∈ now.drop p, x ≤ a) (hx : x ∈ now) :
    p < now.length ∧ (now.take p ++ now.drop (p + 1)).Pairwise (· < ·) ∧ (∀ a, a ∈ now.take p ++ now.drop (p + 1) ↔ a ∈ now ∧ a ≠ x) := by
  have hd : x ∈ now.drop p := by
    rcases List.mem_append.1 (by rw [List.take_append_drop p now]; exact hx : x ∈ now.take p ++ now.drop p) with g | g
    · exact absurd (h1 x g) (by omega)
    · exact g
  have hp : p < now.length := by
    rcases Nat.lt_or_ge p now.length with g | g
    · exact g
    · rw [List.drop_of_length_le g] at hd; simp at hd
  obtain ⟨y, hy⟩ : ∃ y, now[p]? = some y := ⟨_, List.getElem?_eq_getElem hp⟩
  have hdr := drop_of hy
  have hs2 : (now.drop p).Pairwise (· < ·) := hs.sublist (List.drop_sublist ..)
  rw [hdr] at hs2 h2 hd
  have h3 := List.pairwise_cons.1 hs2
  have hyx : y = x := by
    rcases List.mem_cons.1 hd with g | g
    · exact g.symm
    · have a1 := h3.1 x g; have a2 := h2 y (List.mem_cons_self ..); omega
  subst hyx
  have hall : now = now.take p ++ (y :: now.drop (p + 1)) := by rw [← hdr, List.take_append_drop]
  refine ⟨hp, ?_, fun a => ?_⟩
  · refine hs.sublist ?_
    conv => rhs; rw [hall]
    exact (List.Sublist.refl _).append (List.sublist_cons_self ..)
  · conv => rhs; rw [hall]
    simp only [List.mem_append, List.mem_cons]
    constructor
    · rintro (g | g)
      · exact ⟨.inl g, by have := h1 a g; omega⟩
      · exact ⟨.inr (.inr g), by have := h3.1 a g; omega⟩
    · rintro ⟨g | g | g, n⟩
      · exact .inl g
      · exact absurd g n
      · exact .inr g
theorem mem_step_out {now cur l : List Int} {k : Nat} {x : Int} (hm : ∀ a, a ∈ cur ↔ a ∈ now ∧ a ∉ l.take k) (hx : l[k]? = some x) (h : x ∉ cur) : ∀ a, a ∈ cur ↔ a ∈ now ∧ a ∉ l.take (k + 1) := by
  intro a; rw [take_succ_of hx, List.mem_append, List.mem_singleton]
  constructor
  · intro g; exact ⟨((hm a).1 g).1, fun q => q.elim ((hm a).1 g).2 fun e => h (e ▸ g)⟩
  · rintro ⟨g1, g2⟩; exact (hm a).2 ⟨g1, fun q => g2 (.inl q)⟩
theorem mem_step_del {now cur cur2 l : List Int} {k : Nat} {x : Int} (hm : ∀ a, a ∈ cur ↔ a ∈ now ∧ a ∉ l.take k) (hx : l[k]? = some x) (h : ∀ a, a ∈ cur2 ↔ a ∈ cur ∧ a ≠ x) : ∀ a, a ∈ cur2 ↔ a ∈ now ∧ a ∉ l.take (k + 1) := by
  intro a; rw [take_succ_of hx, List.mem_append, List.mem_singleton, h a, hm a]
  constructor
  · rintro ⟨⟨g1, g2⟩, g3⟩; exact ⟨g1, fun q => q.elim g2 g3⟩
  · rintro ⟨g1, g2⟩; exact ⟨⟨g1, fun q => g2 (.inl q)⟩, fun e => g2 (.inr e)⟩
/-- an act of NumsSets -/
structure SAct where
  kind : Int
  v : Value
  ml : List Int
def saC (a : SAct) : List Value := [iV a.kind, a.v]
theorem saC_len (a : SAct) : (saC a).length = 2 := rfl
def SActOk (R : List Hp) (a : SAct) : Prop := ((-9223372036854775808 : Int) ≤ a.kind ∧ a.kind ≤ 9223372036854775807) ∧ Ints R a.v a.ml ∧ ∀ x ∈ a.ml, (-9223372036854775808 : Int) ≤ x ∧ x ≤ 9223372036854775807
/-- the numbers of acts so far, in both words: how many answers differ -/
theorem act_step {now0 cur : List Int} {b : Bool} {x : Int} {n : Int} (hs : cur.Pairwise (· < ·)) (hn : n = if b = true then (cur.length : Int) - now0.length else (now0.length : Int) - cur.length) :
    (if decide (x ∈ cur) ≠ b then n + 1 else n) = (if b = true then ((withS x (!b) cur).length : Int) - now0.length else (now0.length : Int) - (withS x (!b) cur).length) := by
  obtain ⟨i1, i2⟩ := withS_len x cur hs
  cases b with
  | true =>
    simp only [if_true] at hn ⊢
    show _ = ((withS x false cur).length : Int) - _
    by_cases h : x ∈ cur
    · rw [if_pos h] at i1; simp [h]; omega
    · rw [if_neg h] at i1; simp [h]; omega
  | false =>
    simp only [Bool.false_eq_true, if_false] at hn ⊢
    show _ = _ - ((withS x true cur).length : Int)
    by_cases h : x ∈ cur
    · rw [if_pos h] at i2; simp [h]; omega
    · rw [if_neg h] at i2; simp [h]; omega
theorem act_mem {now0 cur l : List Int} {k : Nat} {b : Bool} {x : Int} (hm : ∀ a, a ∈ cur ↔ (if b = true then a ∈ now0 ∨ a ∈ l.take k else a ∈ now0 ∧ a ∉ l.take k)) (hx : l[k]? = some x) :
    ∀ a, a ∈ withS x (!b) cur ↔ (if b = true then a ∈ now0 ∨ a ∈ l.take (k + 1) else a ∈ now0 ∧ a ∉ l.take (k + 1)) := by
  intro a
  rw [with_mem, take_succ_of hx, List.mem_append, List.mem_singleton]
  have h := hm a
  cases b with
  | true => simp only [if_true] at h ⊢; rw [h]; constructor <;> (intro g; rcases g with g | g | g <;> simp [g])
  | false =>
    simp only [Bool.false_eq_true, if_false] at h ⊢; rw [h]
    constructor
    · rintro ⟨⟨g1, g2⟩, g3⟩; exact ⟨g1, fun q => q.elim g2 g3⟩
    · rintro ⟨g1, g2⟩; exact ⟨⟨g1, fun q => g2 (.inl q)⟩, fun e => g2 (.inr e)⟩
theorem withS_le (n : Int) : ∀ (d : Bool) (l : List Int), (withS n d l).length ≤ l.length + (if d then 0 else 1)
  | d, [] => by cases d <;> simp [withS]
  | d, x :: l => by
    have h1 := withS_le n true l
    have h2 := withS_le n false l
    simp only [if_true, Bool.false_eq_true, if_false] at h1 h2
    rw [withS]
    cases d with
    | true => by_cases e : x = n <;> simp [e] <;> omega
    | false =>
      by_cases g : n ≤ x
      · by_cases e : x = n
        · subst e; simp; omega
        · simp [e, g]; omega
      · have e : x ≠ n := by omega
        simp [e, g]; omega
theorem withS_le1 (n : Int) (d : Bool) (l : List Int) : (withS n d l).length ≤ l.length + 1 := by
  have := withS_le n d l; split at this <;> omega
theorem first_mem {wl l : List Int} {k : Nat} {x : Int} (hm : ∀ a, a ∈ wl ↔ a ∈ l.take k) (hx : l[k]? = some x) : ∀ a, a ∈ withS x (!true) wl ↔ a ∈ l.take (k + 1) := by
  intro a; rw [with_mem, if_pos rfl, take_succ_of hx, List.mem_append, List.mem_singleton, hm a]; exact Or.comm
def allIn (l cur : List Int) : Bool := decide (∀ a ∈ l, a ∈ cur)
theorem all_step {ask cur : List Int} {k : Nat} {x : Int} {al : Bool} (h : al = allIn (ask.take k) cur) (hx : ask[k]? = some x) : (al && decide (x ∈ cur)) = allIn (ask.take (k + 1)) cur := by
  rw [h, take_succ_of hx]
  unfold allIn
  rw [← Bool.decide_and]
  refine decide_eq_decide.2 ?_
  simp only [List.mem_append, List.mem_singleton]
  constructor
  · rintro ⟨g1, g2⟩ a (g | rfl)
    · exact g1 a g
    · exact g2
  · intro g; exact ⟨fun a ha => g a (.inl ha), g x (.inr rfl)⟩
theorem neq_of {a b : Bool} (h : (!(a == b)) = true) : a ≠ b := by simpa using h
theorem eq_of {a b : Bool} (h : (!(a == b)) = false) : ¬ a ≠ b := by simpa using h
theorem len_pos_b {l : List Int} : decide (0 < ((l.length : Nat) : Int)) = decide (0 < l.length) := decide_eq_decide.2 (by omega)
theorem filt_step {cur sm : List Int} {k : Nat} {x fr : Int} (h : sm = (cur.take k).filter (fun a => decide (fr ≤ a))) (hx : cur[k]? = some x) : (if fr ≤ x then sm ++ [x] else sm) = (cur.take (k + 1)).filter (fun a => decide (fr ≤ a)) := by
  rw [take_succ_of hx, List.filter_append, ← h]; by_cases g : fr ≤ x <;> simp [g]
theorem act_end_add {now0 cur now' l : List Int} (h1 : cur.Pairwise (· < ·)) (h2 : now'.Pairwise (· < ·)) (hm : ∀ a, a ∈ cur ↔ (if true = true then a ∈ now0 ∨ a ∈ l.take l.length else a ∈ now0 ∧ a ∉ l.take l.length)) (hm2 : ∀ a, a ∈ now' ↔ a ∈ now0 ∨ a ∈ l) : cur = now' :=
  sorted_eq h1 h2 fun a => by rw [hm, hm2, if_pos rfl, List.take_length]
theorem act_end_drop {now0 cur now' l : List Int} (h1 : cur.Pairwise (· < ·)) (h2 : now'.Pairwise (· < ·)) (hm : ∀ a, a ∈ cur ↔ (if false = true then a ∈ now0 ∨ a ∈ l.take l.length else a ∈ now0 ∧ a ∉ l.take l.length)) (hm2 : ∀ a, a ∈ now' ↔ a ∈ now0 ∧ a ∉ l) : cur = now' :=
  sorted_eq h1 h2 fun a => by rw [hm, hm2, if_neg (by decide), List.take_length]
end Go.Q
namespace Go.Q
abbrev Edges := List (Int × Int)
/-- where edges lead from some numbers, rising -/
def nextS (l : Edges) (fr : List Int) : List Int := (l.filter (fun e => decide (e.1 ∈ fr))).foldl (fun acc e => withS e.2 false acc) []
theorem foldW_sorted : ∀ (l : Edges) (acc : List Int), acc.Pairwise (· < ·) → (l.foldl (fun acc e => withS e.2 false acc) acc).Pairwise (· < ·)
  | [], _, h => h
  | e :: l, acc, h => foldW_sorted l _ (withS_sorted e.2 acc h)
theorem foldW_mem (a : Int) : ∀ (l : Edges) (acc : List Int), a ∈ l.foldl (fun acc e => withS e.2 false acc) acc ↔ a ∈ acc ∨ ∃ e ∈ l, e.2 = a
  | [], acc => by simp
  | e :: l, acc => by
    rw [List.foldl_cons, foldW_mem a l, withS_mem]
    simp only [List.mem_cons, exists_eq_or_imp]
    constructor
    · rintro ((h | h) | h)
      · exact .inr (.inl h.symm)
      · exact .inl h
      · exact .inr (.inr h)
    · rintro (h | h | h)
      · exact .inl (.inr h)
      · exact .inl (.inl h.symm)
      · exact .inr h
theorem nextS_sorted (l : Edges) (fr : List Int) : (nextS l fr).Pairwise (· < ·) := foldW_sorted _ _ List.Pairwise.nil
theorem nextS_mem {l : Edges} {fr : List Int} {a : Int} : a ∈ nextS l fr ↔ ∃ x ∈ fr, (x, a) ∈ l := by
  unfold nextS
  rw [foldW_mem]
  simp only [List.not_mem_nil, false_or, List.mem_filter, decide_eq_true_eq]
  constructor
  · rintro ⟨⟨x, y⟩, ⟨h1, h2⟩, rfl⟩; exact ⟨x, h2, h1⟩
  · rintro ⟨x, h1, h2⟩; exact ⟨(x, a), ⟨h2, h1⟩, rfl⟩
theorem next1_mem {l : Edges} {x a : Int} : a ∈ nextS l [x] ↔ (x, a) ∈ l := by rw [nextS_mem]; simp
/-- a sorted list within another one is no longer -/
theorem len_of_sub : ∀ (a b : List Int), a.Pairwise (· < ·) → (∀ x ∈ a, x ∈ b) → a.length ≤ b.length
  | [], _, _, _ => Nat.zero_le _
  | x :: a, b, h, hs => by
    have h2 := List.pairwise_cons.1 h
    have hx := hs x (List.mem_cons_self ..)
    have := len_of_sub a (b.erase x) h2.2 fun y hy => (List.mem_erase_of_ne (by have := h2.1 y hy; omega)).2 (hs y (List.mem_cons_of_mem _ hy))
    rw [List.length_erase_of_mem hx] at this
    have : 0 < b.length := List.length_pos_of_mem hx
    rw [List.length_cons]; omega
theorem len_snd {l : Edges} {a : List Int} (h : a.Pairwise (· < ·)) (hs : ∀ x ∈ a, ∃ y, (y, x) ∈ l) : a.length ≤ l.length := by
  have := len_of_sub a (l.map (·.2)) h fun x hx => by obtain ⟨y, hy⟩ := hs x hx; exact List.mem_map.2 ⟨_, hy, rfl⟩
  rwa [List.length_map] at this
theorem nextS_len (l : Edges) (fr : List Int) : (nextS l fr).length ≤ l.length :=
  len_snd (nextS_sorted l fr) fun x hx => by obtain ⟨y, _, h⟩ := nextS_mem.1 hx; exact ⟨y, h⟩
/-- there is a way of one edge, or of more -/
inductive Leads (l : Edges) : Int → Int → Prop
  | one {a b : Int} : (a, b) ∈ l → Leads l a b
  | more {a b c : Int} : (a, b) ∈ l → Leads l b c → Leads l a c
theorem Leads.snoc {l : Edges} {a b c : Int} (h : Leads l a b) (e : (b, c) ∈ l) : Leads l a c := by
  induction h with
  | one h => exact .more h (.one e)
  | more h _ ih => exact .more h (ih e)
/-- all to which there is a way: what holds what is next and is closed -/
theorem leads_closed {l : Edges} {fr s : List Int} (h0 : ∀ x ∈ fr, ∀ y, (x, y) ∈ l → y ∈ s) (h1 : ∀ x ∈ s, ∀ y, (x, y) ∈ l → y ∈ s) {x y : Int} (hx : x ∈ fr) (h : Leads l x y) : y ∈ s := by
  have key : ∀ a b, Leads l a b → (a ∈ s → b ∈ s) := fun a b h => by
    induction h with
    | one h => exact fun g => h1 _ g _ h
    | more h _ ih => exact fun g => ih (h1 _ g _ h)
  cases h with
  | one h => exact h0 x hx _ h
  | more h h2 => exact key _ _ h2 (h0 x hx _ h)
/-- ref.Reach: k rounds more -/
def joinS (more out : List Int) : List Int := more.foldl (fun acc x => withS x false acc) out
theorem joinS_sorted : ∀ (m o : List Int), o.Pairwise (· < ·) → (joinS m o).Pairwise (· < ·)
  | [], _, h => h
  | x :: m, o, h => joinS_sorted m _ (withS_sorted x o h)
theorem joinS_mem (a : Int) : ∀ (m o : List Int), a ∈ joinS m o ↔ a ∈ o ∨ a ∈ m
  | [], o => by simp [joinS]
  | x :: m, o => by
    show a ∈ joinS m (withS x false o) ↔ _
    rw [joinS_mem a m, withS_mem, List.mem_cons]
    constructor
    · rintro ((h | h) | h)
      · exact .inr (.inl h)
      · exact .inl h
      · exact .inr (.inr h)
    · rintro (h | h | h)
      · exact .inl (.inr h)
      · exact .inl (.inl h)
      · exact .inr h
def roundS (l : Edges) : Nat → List Int → List Int
  | 0, o => o
  | k + 1, o => roundS l k (joinS (nextS l o) o)
def reachS (l : Edges) (fr : List Int) : List Int := roundS l (l.length + 1) (nextS l fr)
theorem round_sorted (l : Edges) : ∀ (k : Nat) (o : List Int), o.Pairwise (· < ·) → (roundS l k o).Pairwise (· < ·)
  | 0, _, h => h
  | k + 1, o, h => round_sorted l k _ (joinS_sorted _ _ h)
theorem reach_sorted (l : Edges) (fr : List Int) : (reachS l fr).Pairwise (· < ·) := round_sorted _ _ _ (nextS_sorted _ _)
theorem round_keep (l : Edges) : ∀ (k : Nat) (o : List Int), joinS (nextS l o) o = o → roundS l k o = o
  | 0, _, _ => rfl
  | k + 1, o, h => by rw [roundS, h]; exact round_keep l k o h
/-- it stands still, or it has grown by one a round -/
theorem round_grows (l : Edges) : ∀ (k : Nat) (o : List Int), o.Pairwise (· < ·) → joinS (nextS l (roundS l k o)) (roundS l k o) = roundS l k o ∨ o.length + k ≤ (roundS l k o).length
  | 0, o, _ => .inr (Nat.le_refl _)
  | k + 1, o, h => by
    by_cases e : joinS (nextS l o) o = o
    · left; rw [round_keep l (k + 1) o e]; exact e
    · have hj := joinS_sorted (nextS l o) o h
      have hlt : o.length + 1 ≤ (joinS (nextS l o) o).length := by
        have h1 := len_of_sub o (joinS (nextS l o) o) h (fun x hx => (joinS_mem x _ _).2 (.inl hx))
        rcases Nat.lt_or_ge o.length (joinS (nextS l o) o).length with g | g
        · exact g
        · exfalso
          apply e
          refine sorted_eq hj h fun x => ⟨fun hx => ?_, fun hx => (joinS_mem x _ _).2 (.inl hx)⟩
          refine Classical.byContradiction fun hn => ?_
          have h2 := len_of_sub (withS x false o) _ (withS_sorted x o h) (fun y hy => by
            rcases (withS_mem x y o).1 hy with rfl | hy
            · exact hx
            · exact (joinS_mem y _ _).2 (.inl hy))
          have h3 := (withS_len x o h).1
          rw [if_neg hn] at h3; omega
      rcases round_grows l k _ hj with g | g
      · exact .inl g
      · right; rw [roundS]; omega
theorem round_sub {l : Edges} {P : Int → Prop} (hc : ∀ x y, P x → (x, y) ∈ l → P y) : ∀ (k : Nat) (o : List Int), (∀ x ∈ o, P x) → ∀ x ∈ roundS l k o, P x
  | 0, _, h => h
  | k + 1, o, h => round_sub hc k _ fun x hx => by
    rcases (joinS_mem x _ _).1 hx with g | g
    · exact h x g
    · obtain ⟨y, hy, he⟩ := nextS_mem.1 g; exact hc y x (h y hy) he
theorem round_mono {l : Edges} : ∀ (k : Nat) (o : List Int), ∀ x ∈ o, x ∈ roundS l k o
  | 0, _, _, h => h
  | k + 1, o, x, h => round_mono k _ x ((joinS_mem x _ _).2 (.inl h))
theorem reach_mem {l : Edges} {fr : List Int} {a : Int} : a ∈ reachS l fr ↔ ∃ x ∈ fr, Leads l x a := by
  constructor
  · intro h
    refine round_sub (l := l) (P := fun a => ∃ x ∈ fr, Leads l x a) (fun x y ⟨z, hz, g⟩ e => ⟨z, hz, g.snoc e⟩) _ _ (fun x hx => ?_) a h
    obtain ⟨y, hy, e⟩ := nextS_mem.1 hx; exact ⟨y, hy, .one e⟩
  · rintro ⟨x, hx, h⟩
    have hs := reach_sorted l fr
    have hfix : joinS (nextS l (reachS l fr)) (reachS l fr) = reachS l fr := by
      rcases round_grows l (l.length + 1) (nextS l fr) (nextS_sorted _ _) with g | g
      · exact g
      · exfalso
        have : (reachS l fr).length ≤ l.length := len_snd hs fun x hx => by
          refine round_sub (l := l) (P := fun a => ∃ y, (y, a) ∈ l) (fun x y _ e => ⟨x, e⟩) _ _ (fun x hx => ?_) x hx
          obtain ⟨y, _, e⟩ := nextS_mem.1 hx; exact ⟨y, e⟩
        unfold reachS at this; omega
    refine leads_closed (fr := fr) (s := reachS l fr) (fun x hx y e => round_mono _ _ y (nextS_mem.2 ⟨x, hx, e⟩)) (fun x hx y e => ?_) hx h
    rw [← hfix]; exact (joinS_mem y _ _).2 (.inr (nextS_mem.2 ⟨x, hx, e⟩))
theorem reach_len (l : Edges) (fr : List Int) : (reachS l fr).length ≤ l.length :=
  len_snd (reach_sorted l fr) fun x hx => by
    obtain ⟨y, _, h⟩ := reach_mem.1 hx
    have : ∀ a b, Leads l a b → ∃ y, (y, b) ∈ l := fun a b h => by
      induction h with
      | one h => exact ⟨_, h⟩
      | more _ _ ih => exact ih
    exact this _ _ h
theorem next_yes {l : Edges} {k : Nat} {x : Int × Int} {fr : List Int} (hx : l[k]? = some x) (h : x.1 ∈ fr) : nextS (l.take (k + 1)) fr = withS x.2 false (nextS (l.take k) fr) := by
  unfold nextS; rw [take_succ_of hx, List.filter_append, List.foldl_append]; simp [h]
theorem next_no {l : Edges} {k : Nat} {x : Int × Int} {fr : List Int} (hx : l[k]? = some x) (h : x.1 ∉ fr) : nextS (l.take (k + 1)) fr = nextS (l.take k) fr := by
  unfold nextS; rw [take_succ_of hx, List.filter_append, List.foldl_append]; simp [h]
/-- a set that has taken one more -/
theorem set_with {cur now' : List Int} {x : Int} (h1 : cur.Pairwise (· < ·)) (h2 : now'.Pairwise (· < ·)) (hm : ∀ a, a ∈ now' ↔ a ∈ cur ∨ a ∈ [x]) : now' = withS x false cur :=
  sorted_eq h2 (withS_sorted x cur h1) fun a => by rw [hm, withS_mem, List.mem_singleton]; exact Or.comm
/-- graph.Reach under way: cur is what was met, td what is still to be looked at -/
structure RI (l : Edges) (fr cur td : List Int) : Prop where
  sorted : cur.Pairwise (· < ·)
  c1 : ∀ a ∈ cur, ∃ x ∈ fr, Leads l x a
  t1 : ∀ a ∈ td, ∃ x ∈ fr, Leads l x a
  base : ∀ x ∈ fr, ∀ y, (x, y) ∈ l → y ∈ cur ∨ y ∈ td
  closed : ∀ x ∈ cur, ∀ y, (x, y) ∈ l → y ∈ cur ∨ y ∈ td
theorem RI.start (l : Edges) (fr : List Int) : RI l fr [] (nextS l fr) :=
  ⟨List.Pairwise.nil, fun a h => absurd h (by simp), fun a h => by obtain ⟨x, hx, e⟩ := nextS_mem.1 h; exact ⟨x, hx, .one e⟩, fun x hx y e => .inr (nextS_mem.2 ⟨x, hx, e⟩), fun x h => absurd h (by simp)⟩
theorem td_head {td : List Int} {x : Int} (hx : td[0]? = some x) {y : Int} (h : y ∈ td) : y = x ∨ y ∈ td.drop 1 := by
  cases td with
  | nil => simp at h
  | cons z t =>
    obtain rfl : z = x := by simpa using hx
    rcases List.mem_cons.1 h with h | h
    · exact .inl h
    · exact .inr h
theorem RI.next {l : Edges} {fr cur td more : List Int} {x : Int} (h : RI l fr cur td) (hx : td[0]? = some x) (hm : ∀ y ∈ more, (x, y) ∈ l) (hn : x ∈ cur ∨ ∀ y, (x, y) ∈ l → y ∈ more) : RI l fr (withS x false cur) ((td ++ more).drop 1) := by
  have hxt : x ∈ td := List.mem_of_getElem? hx
  have hlt : 1 ≤ td.length := List.length_pos_of_mem hxt
  have ed : (td ++ more).drop 1 = td.drop 1 ++ more := by rw [List.drop_append, show 1 - td.length = 0 by omega, List.drop_zero]
  have old : ∀ y, y ∈ cur ∨ y ∈ td → y ∈ withS x false cur ∨ y ∈ (td ++ more).drop 1 := fun y hy => by
    rw [ed, List.mem_append, withS_mem]
    rcases hy with g | g
    · exact .inl (.inr g)
    · rcases td_head hx g with rfl | g
      · exact .inl (.inl rfl)
      · exact .inr (.inl g)
  refine ⟨withS_sorted x cur h.sorted, fun a ha => ?_, fun a ha => ?_, fun z hz y e => old y (h.base z hz y e), fun z hz y e => ?_⟩
  · rcases (withS_mem x a cur).1 ha with rfl | ha
    · exact h.t1 _ hxt
    · exact h.c1 a ha
  · rw [ed] at ha
    rcases List.mem_append.1 ha with g | g
    · exact h.t1 a (List.mem_of_mem_drop g)
    · obtain ⟨z, hz, gz⟩ := h.t1 x hxt; exact ⟨z, hz, gz.snoc (hm a g)⟩
  · rcases (withS_mem x z cur).1 hz with rfl | hz
    · rcases hn with hn | hn
      · exact old y (h.closed z hn y e)
      · exact .inr (by rw [ed]; exact List.mem_append_right _ (hn y e))
    · exact old y (h.closed z hz y e)
theorem with_old {x : Int} {cur : List Int} (hs : cur.Pairwise (· < ·)) (h : ¬ (0 : Int) < ((withS x false cur).length : Int) - (cur.length : Int)) : x ∈ cur :=
  Classical.byContradiction fun n => by have := (withS_len x cur hs).1; rw [if_neg n] at this; omega
theorem with_new {x : Int} {cur : List Int} (hs : cur.Pairwise (· < ·)) (h : (0 : Int) < ((withS x false cur).length : Int) - (cur.length : Int)) : x ∉ cur ∧ (withS x false cur).length = cur.length + 1 := by
  have := (withS_len x cur hs).1
  by_cases n : x ∈ cur
  · rw [if_pos n] at this; omega
  · rw [if_neg n] at this; exact ⟨n, this⟩
theorem RI.old {l : Edges} {fr cur td : List Int} {x : Int} (h : RI l fr cur td) (hx : td[0]? = some x) (g : ¬ (0 : Int) < ((withS x false cur).length : Int) - (cur.length : Int)) : RI l fr (withS x false cur) (td.drop 1) := by
  have := h.next (more := []) hx (by simp) (.inl (with_old h.sorted g))
  simpa using this
theorem RI.new {l : Edges} {fr cur td : List Int} {x : Int} (h : RI l fr cur td) (hx : td[0]? = some x) : RI l fr (withS x false cur) ((td ++ nextS l [x]).drop 1) :=
  h.next hx (fun y hy => next1_mem.1 hy) (.inr fun y e => next1_mem.2 e)
theorem RI.done {l : Edges} {fr cur td : List Int} (h : RI l fr cur td) (ht : td.length = 0) : cur = reachS l fr := by
  obtain rfl := List.eq_nil_of_length_eq_zero ht
  refine sorted_eq h.sorted (reach_sorted l fr) fun a => ⟨fun ha => reach_mem.2 (h.c1 a ha), fun ha => ?_⟩
  obtain ⟨x, hx, g⟩ := reach_mem.1 ha
  exact leads_closed (fr := fr) (fun x hx y e => (h.base x hx y e).resolve_right (by simp)) (fun x hx y e => (h.closed x hx y e).resolve_right (by simp)) hx g
theorem RI.len {l : Edges} {fr cur td : List Int} (h : RI l fr cur td) : cur.length ≤ l.length :=
  len_snd h.sorted fun a ha => by
    obtain ⟨x, _, g⟩ := h.c1 a ha
    have : ∀ a b, Leads l a b → ∃ y, (y, b) ∈ l := fun a b h => by
      induction h with
      | one h => exact ⟨_, h⟩
      | more _ _ ih => exact ih
    exact this _ _ g
/-- how much there is to do -/
def rmeas (l : Edges) (c t : Nat) : Nat := (l.length - c) * (l.length + 1) + t
theorem rm_le (l : Edges) (c t : Nat) : t ≤ rmeas l c t := Nat.le_add_left _ _
theorem rm_start {l : Edges} (h : l.length ≤ 1000) (fr : List Int) : rmeas l ([] : List Int).length (nextS l fr).length ≤ 1002000 := by
  have h1 := nextS_len l fr
  have h2 : (l.length - 0) * (l.length + 1) ≤ 1000 * 1001 := Nat.mul_le_mul (by omega) (by omega)
  unfold rmeas; simp only [List.length_nil]; omega
theorem RI.lower {l : Edges} {fr cur td : List Int} {x : Int} (h : RI l fr cur td) (hx : td[0]? = some x) : rmeas l (withS x false cur).length (td.drop 1).length < rmeas l cur.length td.length ∧ ((0 : Int) < ((withS x false cur).length : Int) - (cur.length : Int) → rmeas l (withS x false cur).length ((td ++ nextS l [x]).drop 1).length < rmeas l cur.length td.length) := by
  have hlt : 1 ≤ td.length := List.length_pos_of_mem (List.mem_of_getElem? hx)
  have h1 := (withS_len x cur h.sorted).1
  constructor
  · unfold rmeas
    have : (l.length - (withS x false cur).length) * (l.length + 1) ≤ (l.length - cur.length) * (l.length + 1) := Nat.mul_le_mul_right _ (by split at h1 <;> omega)
    rw [List.length_drop]; omega
  · intro g
    have hn := (with_new h.sorted g).2
    have hc : (withS x false cur).length ≤ l.length := (h.new hx).len
    have h2 := nextS_len l [x]
    unfold rmeas
    rw [hn, List.length_drop, List.length_append]
    have e : l.length - cur.length = (l.length - (cur.length + 1)) + 1 := by omega
    rw [e, Nat.add_mul]; omega
theorem join_step {more out : List Int} {j : Nat} {x : Int} (hx : more[j]? = some x) : joinS (more.take (j + 1)) out = withS x false (joinS (more.take j) out) := by
  unfold joinS; rw [take_succ_of hx, List.foldl_append]; rfl
theorem round_step {l : Edges} {k : Nat} {out : List Int} (hk : k ≤ l.length) : roundS l (l.length + 1 - k) out = roundS l (l.length + 1 - (k + 1)) (joinS (nextS l out) out) := by
  rw [show l.length + 1 - k = (l.length + 1 - (k + 1)) + 1 by omega, roundS]
theorem joined_from {l : Edges} {out : List Int} (h : ∀ a ∈ out, ∃ y, (y, a) ∈ l) : ∀ a ∈ joinS (nextS l out) out, ∃ y, (y, a) ∈ l := fun a ha => by
  rcases (joinS_mem a _ _).1 ha with g | g
  · exact h a g
  · obtain ⟨y, _, e⟩ := nextS_mem.1 g; exact ⟨y, e⟩
theorem next_from (l : Edges) (fr : List Int) : ∀ a ∈ nextS l fr, ∃ y, (y, a) ∈ l := fun a ha => by obtain ⟨y, _, e⟩ := nextS_mem.1 ha; exact ⟨y, e⟩
/-- the fewest edges of a way -/
def stepsL (l : Edges) (to : Int) : Nat → Nat → List Int → Nat
  | 0, _, _ => 0
  | n + 1, k, now => if to ∈ nextS l now then k else stepsL l to n (k + 1) (nextS l now)
def stepsS (l : Edges) (a to : Int) : Nat := stepsL l to (l.length + 1) 1 [a]
theorem steps_go {l : Edges} {to : Int} {k : Nat} {now : List Int} (hk : k ≤ l.length + 1) (h : to ∉ nextS l now) : stepsL l to (l.length + 2 - k) k now = stepsL l to (l.length + 2 - (k + 1)) (k + 1) (nextS l now) := by
  rw [show l.length + 2 - k = (l.length + 2 - (k + 1)) + 1 by omega, stepsL, if_neg h]
theorem steps_hit {l : Edges} {to : Int} {k : Nat} {now : List Int} (hk : k ≤ l.length + 1) (h : to ∈ nextS l now) : stepsL l to (l.length + 2 - k) k now = k := by
  rw [show l.length + 2 - k = (l.length + 2 - (k + 1)) + 1 by omega, stepsL, if_pos h]
/-- ref.Way: behind the first number -/
def tailS (l : Edges) (to : Int) : Nat → Int → List Int
  | 0, _ => []
  | k + 1, cur => match (nextS l [cur]).find? (fun x => decide (stepsS l x to = k + 1)) with
    | some x => x :: tailS l to k x
    | none => tailS l to k cur
def rwayS (l : Edges) (a to : Int) : List Int := if stepsS l a to = 0 then [] else a :: tailS l to (stepsS l a to - 1) a
theorem find_at {p : Int → Bool} {x : Int} : ∀ {l : List Int} {j : Nat}, (∀ y ∈ l.take j, p y = false) → l[j]? = some x → p x = true → l.find? p = some x
  | [], _, _, h, _ => by simp at h
  | z :: l, 0, _, h, hp => by
    obtain rfl : z = x := by simpa using h
    rw [List.find?_cons, hp]
  | z :: l, j + 1, hn, h, hp => by
    rw [List.find?_cons, hn z (by simp), find_at (j := j) (fun y hy => hn y (by rw [List.take_succ_cons]; exact List.mem_cons_of_mem _ hy)) (by simpa using h) hp]
theorem tail_yes {l : Edges} {to cur x : Int} {k : Nat} (hk : 0 < k) (h : (nextS l [cur]).find? (fun x => decide (stepsS l x to = k)) = some x) : tailS l to k cur = x :: tailS l to (k - 1) x := by
  obtain ⟨m, rfl⟩ : ∃ m, k = m + 1 := ⟨k - 1, by omega⟩
  rw [tailS, h]; rfl
theorem tail_no {l : Edges} {to cur : Int} {k : Nat} (hk : 0 < k) (h : (nextS l [cur]).find? (fun x => decide (stepsS l x to = k)) = none) : tailS l to k cur = tailS l to (k - 1) cur := by
  obtain ⟨m, rfl⟩ : ∃ m, k = m + 1 := ⟨k - 1, by omega⟩
  rw [tailS, h]; rfl
theorem tail_len (l : Edges) (to : Int) : ∀ (k : Nat) (cur : Int), (tailS l to k cur).length ≤ k
  | 0, _ => Nat.le_refl _
  | k + 1, cur => by
    rw [tailS]
    split
    · rw [List.length_cons]; have := tail_len l to k ‹_›; omega
    · have := tail_len l to k cur; omega
theorem last_drop {out : List Int} {cur x : Int} (h : out.drop (out.length - 1) = [cur]) : (out ++ [x]).drop ((out ++ [x]).length - 1) = [x] := by
  rw [List.length_append, List.length_singleton, Nat.add_sub_cancel, List.drop_left]
theorem stepsL_le (l : Edges) (to : Int) : ∀ (n k : Nat) (now : List Int), stepsL l to n k now ≤ n + k
  | 0, _, _ => Nat.zero_le _
  | n + 1, k, now => by rw [stepsL]; split; omega; have := stepsL_le l to n (k + 1) (nextS l now); omega
theorem stepsS_le (l : Edges) (a to : Int) : stepsS l a to ≤ l.length + 2 := by have := stepsL_le l to (l.length + 1) 1 [a]; unfold stepsS; omega
end Go.Q
namespace Go.Q
section ops
variable {P : Program} {ρ : Operand → Value} {E w : World} {ss : List (List Hp)} {K : Value → World → Prop} {dst : Option Tmp} {T : TypeId} {pos : String} {after : Array Edge} {g : Option (Nat × Bool)}
theorem o_makeFunc {f : FuncId} {cs : Array Operand} {vs : Array Value} (hv : cs.map ρ = vs) (hK : K (.func (.func f) #[] vs) w) : OK P ⟨dst, .makeFunc (.func f) #[] cs, T, pos, after, g⟩ ρ w K := by
  refine OK.val (w' := w) ?_ hK
  subst hv; simp [execOp, Instr.makeFunc]
variable {a b c : Operand} {u v x y : Value}
theorem cap1 (h1 : ρ a = u) : #[a].map ρ = #[u] := by simp [*]
theorem cap2 (h1 : ρ a = u) (h2 : ρ b = v) : #[a, b].map ρ = #[u, v] := by simp [*]
theorem cap3 (h1 : ρ a = u) (h2 : ρ b = v) (h3 : ρ c = x) : #[a, b, c].map ρ = #[u, v, x] := by simp [*]
theorem args1c1 (h1 : ρ a = u) : #[] ++ #[a].map ρ ++ #[x] = #[u, x] := by simp [*]
theorem args1c2 (h1 : ρ a = u) : #[] ++ #[a].map ρ ++ #[x, y] = #[u, x, y] := by simp [*]
end ops
/-- the first place whose element is so, or -1 -/
def idxP (p : Int → Bool) : List Int → Int
  | [] => -1
  | y :: l => if p y = true then 0 else if idxP p l < 0 then -1 else idxP p l + 1
theorem idxP_none {p : Int → Bool} : ∀ {l : List Int}, (∀ y ∈ l, p y = false) → idxP p l = -1
  | [], _ => rfl
  | y :: l, h => by
    rw [idxP, if_neg (by rw [h y (by simp)]; decide), idxP_none fun z hz => h z (List.mem_cons_of_mem _ hz)]; rfl
theorem idxP_at {p : Int → Bool} {y : Int} : ∀ {l : List Int} {k : Nat}, (∀ z ∈ l.take k, p z = false) → l[k]? = some y → p y = true → idxP p l = k
  | [], _, _, h, _ => by simp at h
  | z :: l, 0, _, h, e => by
    have : z = y := by simpa using h
    subst this
    rw [idxP, if_pos e]; rfl
  | z :: l, k + 1, hn, h, e => by
    have h1 := hn z (by simp)
    rw [idxP, if_neg (by rw [h1]; decide), idxP_at (k := k) (fun u hu => hn u (by rw [List.take_succ_cons]; exact List.mem_cons_of_mem _ hu)) (by simpa using h) e, if_neg (by omega)]; omega
theorem idxP_any {p : Int → Bool} : ∀ {l : List Int}, decide (0 ≤ idxP p l) = l.any p
  | [] => rfl
  | y :: l => by
    have ih := idxP_any (p := p) (l := l)
    rw [idxP, List.any_cons]
    cases h : p y with
    | true => rfl
    | false =>
      rw [if_neg (by decide), Bool.false_or, ← ih]
      by_cases g : idxP p l < 0
      · rw [if_pos g]; exact decide_eq_decide.2 (by omega)
      · rw [if_neg g]; exact decide_eq_decide.2 (by omega)
/-- a way leads from a number to itself -/
def goesR (l : Edges) (x : Int) : Bool := decide (x ∈ reachS l [x])
def deadS (g : Int → Bool) (l : Edges) : List Int := joinS ((l.filter (fun e => g e.1)).map (·.1)) []
theorem deadS_sorted (g : Int → Bool) (l : Edges) : (deadS g l).Pairwise (· < ·) := joinS_sorted _ _ List.Pairwise.nil
theorem deadS_mem {g : Int → Bool} {l : Edges} {a : Int} : a ∈ deadS g l ↔ g a = true ∧ ∃ y, (a, y) ∈ l := by
  unfold deadS
  rw [joinS_mem]
  simp only [List.not_mem_nil, false_or, List.mem_map, List.mem_filter]
  constructor
  · rintro ⟨⟨x, y⟩, ⟨h1, h2⟩, rfl⟩; exact ⟨h2, y, h1⟩
  · rintro ⟨h, y, h1⟩; exact ⟨(a, y), ⟨h1, h⟩, rfl⟩
theorem dead_yes {g : Int → Bool} {l : Edges} {k : Nat} {x : Int × Int} (hx : l[k]? = some x) (h : g x.1 = true) : deadS g (l.take (k + 1)) = withS x.1 false (deadS g (l.take k)) := by
  unfold deadS joinS; rw [take_succ_of hx, List.filter_append, List.map_append, List.foldl_append]; simp [h]
theorem dead_no {g : Int → Bool} {l : Edges} {k : Nat} {x : Int × Int} (hx : l[k]? = some x) (h : g x.1 = false) : deadS g (l.take (k + 1)) = deadS g (l.take k) := by
  unfold deadS joinS; rw [take_succ_of hx, List.filter_append, List.map_append, List.foldl_append]; simp [h]
end Go.Q
namespace Go.Q
theorem setFrom_size : ∀ (vs : List Value) (c : Array Value) (k : Nat), (setFrom c k vs).size = c.size
  | [], _, _ => rfl
  | v :: vs, c, k => by rw [setFrom, setFrom_size vs, Array.size_setIfInBounds]
theorem setFrom_list : ∀ (vs : List Value) (c : Array Value) (k : Nat), k + vs.length ≤ c.size → (setFrom c k vs).toList = c.toList.take k ++ vs ++ c.toList.drop (k + vs.length)
  | [], c, k, _ => by simp [setFrom]
  | v :: vs, c, k, h => by
    rw [List.length_cons] at h
    have hk : k < c.toList.length := by simpa using (show k < c.size by omega)
    rw [setFrom, setFrom_list vs _ _ (by rw [Array.size_setIfInBounds]; omega), Array.toList_setIfInBounds, List.take_set, List.drop_set_of_lt (by omega), List.length_cons]
    rw [show k + 1 + vs.length = k + (vs.length + 1) by omega, List.take_succ_eq_append_getElem hk]
    rw [List.set_append_right _ _ (by rw [List.length_take]; omega), List.length_take, Nat.min_eq_left (by omega), Nat.sub_self]
    simp
theorem flat_set {α : Type} {f : α → List Value} {sz : Nat} (hf : ∀ a, (f a).length = sz) : ∀ (l : List α) (i : Nat) (a : α), i < l.length → (l.set i a).flatMap f = (l.flatMap f).take (i * sz) ++ f a ++ (l.flatMap f).drop ((i + 1) * sz)
  | [], i, a, h => by simp at h
  | x :: l, 0, a, _ => by
    rw [List.set_cons_zero, List.flatMap_cons, List.flatMap_cons, Nat.zero_mul, List.take_zero, List.nil_append, Nat.zero_add, Nat.one_mul, ← hf x, List.drop_left]
  | x :: l, i + 1, a, h => by
    rw [List.set_cons_succ, List.flatMap_cons, List.flatMap_cons, flat_set hf l i a (by simpa using h)]
    have e1 : (f x ++ l.flatMap f).take ((i + 1) * sz) = f x ++ (l.flatMap f).take (i * sz) := by
      rw [Nat.succ_mul, Nat.add_comm, ← hf x, List.take_length_add_append]
    have e2 : (f x ++ l.flatMap f).drop ((i + 1 + 1) * sz) = (l.flatMap f).drop ((i + 1) * sz) := by
      rw [Nat.succ_mul, Nat.add_comm, ← hf x, List.drop_length_add_append]
    rw [e1, e2]; simp [List.append_assoc]
def OwnAtF (e : TypeId) (sz : Nat) (v : Value) (n : Nat) (cs : List Value) (hs : List Hp) (b : Nat) : Prop :=
  ∃ cap cur, v = .slice (some ⟨b, 0, none⟩) n cap ∧ hs = [Hp.one b (.cells cur e (0, 0))] ∧ n ≤ cap ∧ cap ≤ maxLen ∧ cur.size = cap * sz ∧ cur.toList.take (n * sz) = cs ∧ cs.length = n * sz
theorem OwnAtF.cells {e : TypeId} {sz n b : Nat} {v : Value} {hs : List Hp} {α : Type} {f : α → List Value} (hf : ∀ a, (f a).length = sz) {l : List α} (ho : OwnAtF e sz v n (l.flatMap f) hs b) {i : Nat} {a : α} (ha : l[i]? = some a) : CellsAt hs b (i * sz) (f a) := by
  obtain ⟨cap, cur, rfl, rfl, hnc, hcm, hsz, hc, hl⟩ := ho
  refine ⟨_, List.mem_singleton.2 rfl, cur, e, (0, 0), Hp.one_at _ _, fun j v hv => ?_⟩
  have h1 := flat_part hf l i a ha
  rw [← h1, List.getElem?_take] at hv
  split at hv
  · rw [List.getElem?_drop, ← hc, List.getElem?_take] at hv
    split at hv
    · simpa using hv
    · cases hv
  · cases hv
section ops
variable {P : Program} {ρ : Operand → Value} {E w : World} {ss : List (List Hp)} {K : Value → World → Prop} {dst : Option Tmp} {T : TypeId} {pos : String} {after : Array Edge} {g : Option (Nat × Bool)}
theorem o_ownAddrF {x y : Operand} {t e : TypeId} {hs : List Hp} {sz n by_ : Nat} {v z : Value} {cs : List Value} {k : IntKind} {i : Int} (ht : P.underlying t = some (.slice e)) (hi : TI P e z sz by_)
    (hx : ρ x = v) (ho : Own e sz v n cs hs) (hy : ρ y = .int k i) (h0 : 0 ≤ i) (h1 : i < n) (hK : ∀ b, OwnAtF e sz v n cs hs b → K (.pointer (some ⟨b, i.toNat * sz, none⟩)) w) :
    OK P ⟨dst, .indexAddr t x y, T, pos, after, g⟩ ρ w K := by
  obtain ⟨hl, ⟨rfl, h2, rfl⟩ | ⟨b, cap, cur, rfl, rfl, hnc, hcm, hsz, hc⟩⟩ := ho
  · omega
  · refine OK.val (run_v (v := .pointer (some ⟨b, i.toNat * sz, none⟩)) ?_) (hK b ⟨cap, cur, rfl, rfl, hnc, hcm, hsz, hc, hl⟩)
    rw [hx, hy]
    simp [Instr.indexAt, asIntOf, run_underlying ht, h0, h1, hi.size, add_lit]
theorem own_take {c : List Value} {cs vs : List Value} {off m N : Nat} (hc : c.take N = cs) (hv : vs.length = m) (h : off + m ≤ N) (hN : N ≤ c.length) : (c.take off ++ vs ++ c.drop (off + m)).take N = cs.take off ++ vs ++ cs.drop (off + m) := by
  subst hc hv
  have l1 : (c.take off ++ vs).length = off + vs.length := by rw [List.length_append, List.length_take, Nat.min_eq_left (by omega)]
  rw [List.take_append, l1, List.take_of_length_le (by omega), List.take_take, Nat.min_eq_left (by omega), List.drop_take]
theorem o_ownStoreF {α : Type} {f : α → List Value} {l : List α} {a : α} {x y : Operand} {t e : TypeId} {hs : List Hp} {sz n i b by_ : Nat} {v u z : Value} (hf : ∀ a, (f a).length = sz) (hi : TI P t z sz by_) (hx : ρ x = .pointer (some ⟨b, i * sz, none⟩)) (hy : ρ y = u)
    (hu : u.cells = (f a).toArray) (h1 : ∀ u ∈ f a, u.oneCell' = true) (ho : OwnAtF e sz v n (l.flatMap f) hs b) (hn : n = l.length) (hlt : i < n) (H : Has E w (hs :: ss)) (hK : ∀ hs' w', Own e sz v (l.set i a).length ((l.set i a).flatMap f) hs' → Has E w' (hs' :: ss) → K undef w') :
    OK P ⟨dst, .store t x y, T, pos, after, g⟩ ρ w K := by
  subst hn
  obtain ⟨cap, cur, rfl, rfl, hnc, hcm, hsz, hc, hl⟩ := ho
  have hle : i * sz + sz ≤ l.length * sz := by rw [← Nat.succ_mul]; exact Nat.mul_le_mul_right _ hlt
  have hcl : l.length * sz ≤ cur.size := by rw [hsz]; exact Nat.mul_le_mul_right _ hnc
  refine o_storeN (vs := f a) hi hx hy hu (hf a) h1 (by omega) rfl H fun w' H' => hK _ w' ?_ H'
  rw [List.length_set]
  refine ⟨by rw [flat_len hf, List.length_set], .inr ⟨b, cap, _, rfl, rfl, hnc, hcm, by rw [setFrom_size]; exact hsz, ?_⟩⟩
  rw [setFrom_list _ _ _ (by rw [hf]; omega), hf, own_take hc (hf a) hle (by simpa using hcl), flat_set hf l i a hlt, Nat.succ_mul]
/-- one cell of an element -/
theorem o_ownStoreC {α : Type} {f : α → List Value} {l : List α} {a a' : α} {x y : Operand} {t e : TypeId} {hs : List Hp} {sz n i k b by_ : Nat} {v u z : Value} (hf : ∀ a, (f a).length = sz) (hi : TI P t z 1 by_) (hx : ρ x = .pointer (some ⟨b, i * sz + k, none⟩)) (hy : ρ y = u)
    (hu : u.oneCell' = true) (hk : k < sz) (ha : l[i]? = some a) (ha' : (f a).set k u = f a') (ho : OwnAtF e sz v n (l.flatMap f) hs b) (hn : n = l.length) (H : Has E w (hs :: ss)) (hK : ∀ hs' w', Own e sz v (l.set i a').length ((l.set i a').flatMap f) hs' → Has E w' (hs' :: ss) → K undef w') :
    OK P ⟨dst, .store t x y, T, pos, after, g⟩ ρ w K := by
  subst hn
  obtain ⟨cap, cur, rfl, rfl, hnc, hcm, hsz, hc, hl⟩ := ho
  have hlt : i < l.length := (List.getElem?_eq_some_iff.1 ha).1
  have hle : i * sz + sz ≤ l.length * sz := by rw [← Nat.succ_mul]; exact Nat.mul_le_mul_right _ hlt
  have hcl : l.length * sz ≤ cur.size := by rw [hsz]; exact Nat.mul_le_mul_right _ hnc
  refine o_store1 (c' := cur.setIfInBounds (i * sz + k) u) hi hx hy hu (by omega) rfl H fun w' H' => hK _ w' ?_ H'
  rw [List.length_set]
  refine ⟨by rw [flat_len hf, List.length_set], .inr ⟨b, cap, _, rfl, rfl, hnc, hcm, by simpa using hsz, ?_⟩⟩
  rw [Array.toList_setIfInBounds, List.take_set, hc, flat_set hf l i a' hlt, ← ha', ← flat_part hf l i a ha]
  have hfl : (l.flatMap f).length = l.length * sz := flat_len hf l
  have hd : (l.flatMap f) = (l.flatMap f).take (i * sz) ++ (((l.flatMap f).drop (i * sz)).take sz ++ (l.flatMap f).drop ((i + 1) * sz)) := by
    rw [Nat.succ_mul, ← List.drop_drop, List.take_append_drop, List.take_append_drop]
  have l0 : ((l.flatMap f).take (i * sz)).length = i * sz := by rw [List.length_take, Nat.min_eq_left (by omega)]
  have l1 : (((l.flatMap f).drop (i * sz)).take sz).length = sz := by rw [List.length_take, List.length_drop, Nat.min_eq_left (by omega)]
  conv => lhs; rw [hd]
  rw [List.set_append_right _ _ (by omega), l0, Nat.add_sub_cancel_left, List.set_append_left _ _ (by omega), List.append_assoc]
end ops
end Go.Q
namespace Go.Q
theorem flat_take {α : Type} {f : α → List Value} {sz : Nat} (hf : ∀ a, (f a).length = sz) : ∀ (l : List α) (i : Nat), (l.flatMap f).take (i * sz) = (l.take i).flatMap f
  | [], i => by simp
  | x :: l, 0 => by simp
  | x :: l, i + 1 => by
    rw [List.flatMap_cons, Nat.succ_mul, Nat.add_comm, ← hf x, List.take_length_add_append, List.take_succ_cons, List.flatMap_cons, hf x, flat_take hf l i]
theorem flat_drop {α : Type} {f : α → List Value} {sz : Nat} (hf : ∀ a, (f a).length = sz) : ∀ (l : List α) (i : Nat), (l.flatMap f).drop (i * sz) = (l.drop i).flatMap f
  | [], i => by simp
  | x :: l, 0 => by simp
  | x :: l, i + 1 => by
    rw [List.flatMap_cons, Nat.succ_mul, Nat.add_comm, ← hf x, List.drop_length_add_append, List.drop_succ_cons, hf x, flat_drop hf l i]
end Go.Q
namespace Go.Q
theorem sl_dropF {α : Type} {f : α → List Value} {sz : Nat} (hf : ∀ a, (f a).length = sz) {l : List α} {L : List Hp} {v : Value} {k : Nat} (h : Sl L sz v (l.length - k) ((l.flatMap f).drop (k * sz))) : Sl L sz v (l.drop k).length ((l.drop k).flatMap f) := by
  rw [List.length_drop, ← flat_drop hf]; exact h
theorem sl_partF {α : Type} {f : α → List Value} {sz : Nat} (hf : ∀ a, (f a).length = sz) {l : List α} {L : List Hp} {v : Value} {i j : Nat} (h : Sl L sz v (j - i) (((l.flatMap f).take (j * sz)).drop (i * sz))) (hj : j ≤ l.length) : Sl L sz v ((l.take j).drop i).length (((l.take j).drop i).flatMap f) := by
  rw [List.length_drop, List.length_take, Nat.min_eq_left hj, ← flat_drop hf, ← flat_take hf]; exact h
end Go.Q
namespace Go.Q
/-- What a callback does beside other heaplets. -/
theorem Calls.frameF {P : Program} {f : FuncId} {args : Array Value} {E w : World} {R F : List Hp} {A : Ending → Prop} (h : Calls P f args w fun e w' => A e ∧ Has E w' [([R, F] : List (List Hp)).flatten]) : Calls P f args w fun e w' => A e ∧ Has E w' [R, F] :=
  h.mono fun e w' ⟨ha, hh⟩ => ⟨ha, hh.of_all⟩
theorem cb_more {P : Program} {f : FuncId} {α : Type} {va : α → Array Value} {A : α → Ending → Prop} {E : World} {R G : List Hp} (h : ∀ {w : World} (F : List Hp) (x : α), Has E w [R, F] → Calls P f (va x) w fun e w' => A x e ∧ Has E w' [R, F]) :
    ∀ {w : World} (F : List Hp) (x : α), Has E w [R ++ G, F] → Calls P f (va x) w fun e w' => A x e ∧ Has E w' [R ++ G, F] := fun {w} F x H => by
  have H2 := show Has E w [R, G ++ F] by unfold Has at *; simpa using H
  refine (h (G ++ F) x H2).mono fun e w' ⟨ha, hh⟩ => ⟨ha, ?_⟩
  unfold Has at *; simpa using hh
/-- slices.IndexFunc -/
def idxG {α : Type} (c : α → Bool) (l : List α) : Int := match l.findIdx? c with
  | some i => (i : Int)
  | none => -1
theorem idxG_none {α : Type} {c : α → Bool} {l : List α} (h : ∀ (j : Nat) (x : α), l[j]? = some x → c x = false) : idxG c l = -1 := by
  unfold idxG
  rw [List.findIdx?_eq_none_iff.2 fun x hx => by
    obtain ⟨j, hj⟩ := List.getElem?_of_mem hx
    exact h j x hj]
theorem idxG_some {α : Type} {c : α → Bool} {l : List α} {k : Nat} {x : α} (h : ∀ j, j < k → ∀ y, l[j]? = some y → c y = false) (hx : l[k]? = some x) (e : c x = true) : idxG c l = (k : Int) := by
  unfold idxG
  obtain ⟨hlt, hk⟩ := List.getElem?_eq_some_iff.1 hx
  rw [List.findIdx?_eq_some_iff_getElem.2 ⟨hlt, by rw [hk]; exact e, fun j hj => by
    have := h j hj l[j] (List.getElem?_eq_getElem (by omega))
    simpa using this⟩]
theorem idxG_any {α : Type} {c : α → Bool} {l : List α} : decide (0 ≤ idxG c l) = l.any c := by
  unfold idxG
  cases h : l.findIdx? c with
  | none => simp [List.findIdx?_eq_none_iff.1 h]; intro x hx; exact List.findIdx?_eq_none_iff.1 h x hx
  | some i =>
    obtain ⟨hlt, hc, _⟩ := List.findIdx?_eq_some_iff_getElem.1 h
    have : l.any c = true := List.any_eq_true.2 ⟨l[i], List.getElem_mem hlt, hc⟩
    rw [this]; simp
theorem idxG_lt {α : Type} (c : α → Bool) (l : List α) : -1 ≤ idxG c l ∧ idxG c l < l.length := by
  unfold idxG
  cases h : l.findIdx? c with
  | none => simp only; omega
  | some i =>
    obtain ⟨hlt, _, _⟩ := List.findIdx?_eq_some_iff_getElem.1 h
    simp only; omega
theorem argsG1 {ρ : Operand → Value} {x : Operand} {v : Value} {first cap : Array Value} (h : ρ x = v) : first ++ #[x].map ρ ++ cap = first ++ #[v] ++ cap := by simp [h]
/-! slices.DeleteFunc: the plain law -/
section
variable {α : Type} {c : α → Bool} {l lw : List α} {i j : Nat} {x : α}
theorem df_none {l : List α} (h : idxG c l = -1) : (l.filter fun x => !c x) = l := by
  unfold idxG at h
  cases e : l.findIdx? c with
  | some k => rw [e] at h; simp only at h; omega
  | none => exact List.filter_eq_self.2 fun a ha => by simp [List.findIdx?_eq_none_iff.1 e a ha]
theorem df_start (h : 0 ≤ idxG c l) : l.take (idxG c l).toNat = (l.take ((idxG c l).toNat + 1)).filter fun x => !c x := by
  unfold idxG at *
  cases e : l.findIdx? c with
  | none => rw [e] at h; simp only at h; omega
  | some k =>
    obtain ⟨hlt, hc, hn⟩ := List.findIdx?_eq_some_iff_getElem.1 e
    simp only [Int.toNat_natCast]
    rw [List.take_succ_eq_append_getElem hlt, List.filter_append]
    rw [List.filter_eq_self.2 fun a ha => ?_]
    · simp [hc]
    · obtain ⟨m, hm, rfl⟩ := List.mem_take_iff_getElem.1 ha
      have := hn m (by omega)
      simpa using this
theorem df_at (hx : lw[j]? = some x) (hd : lw.drop j = l.drop j) : l[j]? = some x := by
  have h1 := congrArg (fun z => z[0]?) hd
  simp only [List.getElem?_drop, Nat.add_zero] at h1
  rw [← h1]; exact hx
theorem df_skip (ht : lw.take i = (l.take j).filter fun x => !c x) (hx : lw[j]? = some x) (hd : lw.drop j = l.drop j) (hc : c x = true) : lw.take i = (l.take (j + 1)).filter fun x => !c x := by
  rw [take_succ_of (df_at hx hd), List.filter_append, ← ht]; simp [hc]
theorem df_keep (ht : lw.take i = (l.take j).filter fun x => !c x) (hx : lw[j]? = some x) (hd : lw.drop j = l.drop j) (hi : i < lw.length) (hj : i < j) (hc : c x = false) : (lw.set i x).take (i + 1) = (l.take (j + 1)).filter fun x => !c x := by
  rw [take_succ_of (df_at hx hd), List.filter_append, ← ht, take_succ_of (x := x) (by rw [List.getElem?_set_self hi]), List.take_set_of_le (Nat.le_refl _)]; simp [hc]
theorem df_drop (hd : lw.drop j = l.drop j) : lw.drop (j + 1) = l.drop (j + 1) := by rw [← List.drop_drop, hd, List.drop_drop]
theorem df_drops (hd : lw.drop j = l.drop j) (hj : i < j) : (lw.set i x).drop (j + 1) = l.drop (j + 1) := by rw [List.drop_set_of_lt (by omega)]; exact df_drop hd
theorem df_end {f : α → Value} {cur cn : List Value} {o : Nat} (h : cn.take o = cur.take o) (hc : cur.take (lw.length * 1) = lw.map f) (hi : i ≤ lw.length) (ho : o = i) : cn.take (i * 1) = (lw.take i).map f := by
  subst ho
  rw [Nat.mul_one] at *
  rw [h, List.map_take, ← hc, List.take_take, Nat.min_eq_left hi]
theorem df_endF {f : α → List Value} {sz : Nat} (hf : ∀ a, (f a).length = sz) {cur cn : List Value} {o : Nat} (h : cn.take o = cur.take o) (hc : cur.take (lw.length * sz) = lw.flatMap f) (hi : i ≤ lw.length) (ho : o = i * sz) : cn.take (i * sz) = (lw.take i).flatMap f := by
  subst ho
  rw [h, ← flat_take hf, ← hc, List.take_take, Nat.min_eq_left (Nat.mul_le_mul_right _ hi)]
end
end Go.Q
namespace Go.Q
theorem del_lawS {α : Type} {c c1 c2 : List α} {I N A o2 m d o3 sz : Nat} (h1 : c1 = if 0 < m then c.take A ++ (c.drop o2).take (m * sz) ++ c.drop d else c) (h2 : c2.take o3 = c1.take o3)
    (e1 : A = I * sz) (e2 : m = 0 ∨ o2 = (I + 1) * sz) (e3 : m = N - (I + 1)) (e4 : o3 = (N - 1) * sz) (hI : I < N) (hN : N * sz ≤ c.length) : c2.take ((N - 1) * sz) = c.take (I * sz) ++ (c.take (N * sz)).drop ((I + 1) * sz) := by
  have hle : (I + 1) * sz ≤ N * sz := Nat.mul_le_mul_right _ hI
  have e5 : (N - 1) * sz = I * sz + (N * sz - (I + 1) * sz) := by
    rw [← Nat.sub_mul, ← Nat.add_mul]; congr 1; omega
  rw [← e4, h2, h1]
  by_cases hm : 0 < m
  · obtain rfl : o2 = (I + 1) * sz := by omega
    subst e1
    rw [if_pos hm, List.drop_take, e3, Nat.sub_mul]
    have l1 : (c.take (I * sz) ++ (c.drop ((I + 1) * sz)).take (N * sz - (I + 1) * sz)).length = o3 := by
      have h3 : I * sz ≤ (I + 1) * sz := Nat.mul_le_mul_right _ (by omega)
      simp only [List.length_append, List.length_take, List.length_drop]; omega
    rw [List.take_left' l1]
  · have : N - 1 = I := by omega
    rw [if_neg hm, e4, this, List.drop_of_length_le (by rw [List.length_take, show N = I + 1 by omega]; omega), List.append_nil]
theorem del_listF {α : Type} {f : α → List Value} {sz : Nat} (hf : ∀ a, (f a).length = sz) {l : List α} {c : List Value} {i : Nat} (hi : i < l.length) (hc : c.take (l.length * sz) = l.flatMap f) : c.take (i * sz) ++ (c.take (l.length * sz)).drop ((i + 1) * sz) = (l.take i ++ l.drop (i + 1)).flatMap f := by
  rw [hc, flat_drop hf, List.flatMap_append, ← flat_take hf l i, ← hc, List.take_take, Nat.min_eq_left (Nat.mul_le_mul_right _ (by omega))]
theorem cells_one {v : Value} (h : v.oneCell' = true) : v.cells = #[v] := by cases v <;> first | rfl | (simp [Value.oneCell'] at h)
end Go.Q
namespace Go.Q
/-- nil[:0] -/
theorem o_slnil {P : Program} {ρ : Operand → Value} {w : World} {K : Value → World → Prop} {dst : Option Tmp} {T : TypeId} {pos : String} {after : Array Edge} {g : Option (Nat × Bool)} {x hi : Operand} {t e : TypeId} {z : Value} {sz by_ : Nat} {k : IntKind} {j : Int}
    (ht : P.underlying t = some (.slice e)) (hti : TI P e z sz by_) (hx : ρ x = .slice none 0 0) (hj : ρ hi = .int k j) (h0 : j = 0) (hK : K (.slice none 0 0) w) : OK P ⟨dst, .slice t x none (some hi) none, T, pos, after, g⟩ ρ w K := by
  subst h0
  have e1 : P.elem t = e := by simp [Program.elem, ht]
  have hb := bounds_h (P := P) (n := 0) (cap := 0) (k := k) (j := 0) (by decide) (by decide) w
  have hrun : (Instr.sliceAt t (ρ x) (none.map ρ) ((some hi).map ρ) (none.map ρ)).run P w = .ok (sliced none 0 0 0 sz) w := by
    rw [hx, run_sliceAt_slice _ _ _ _ _ _ (by rw [e1]; exact ht), run_slice_any _ _ _ _ _ (by rw [e1]; exact ht), e1]
    simp only [Option.map_none, Option.map_some, hj]
    rw [hb]
    simp only [Result.andThen_ok, hti.size]; rfl
  exact OK.val (run_v hrun) hK
def rwV {α : Type} (x : Value × List α) : Value := x.1
theorem flat_take_len {α β : Type} (g : α → List β) (l : List α) (k : Nat) : ((l.take k).flatMap g).length ≤ (l.flatMap g).length := by
  conv => rhs; rw [← List.take_append_drop k l, List.flatMap_append, List.length_append]
  omega
end Go.Q
namespace Go.Q
theorem cc_room {α β : Type} {ls : List (α × List β)} {out : List β} {k : Nat} {x : α × List β} {N : Nat} (hf : out = (ls.take k).flatMap (fun q => q.2)) (hx : ls[k]? = some x) (hn : (ls.flatMap (fun q => q.2)).length ≤ N) : out.length + x.2.length ≤ N := by
  have h := flat_take_len (fun q : α × List β => q.2) ls (k + 1)
  rw [take_succ_of hx, List.flatMap_append, List.length_append, ← hf] at h
  simp only [List.flatMap_cons, List.flatMap_nil, List.append_nil] at h
  omega
end Go.Q
namespace Go.Q
theorem fill_one1 {x z : Value} (hx : x.oneCell' = true) (hz : z.oneCell' = true) : Instr.fill (fun i => some (i * 1, 1)) ((Array.range (1 * 1)).map (z.cells[· % z.cells.size]!)) #[(0, x)].toList = some #[x] := by
  simp [Instr.fill, cells_one hx, cells_one hz, Array.range_succ, show Array.range 0 = #[] from rfl]
theorem fill_one2 {x y z : Value} (hx : x.oneCell' = true) (hy : y.oneCell' = true) (hz : z.oneCell' = true) : Instr.fill (fun i => some (i * 1, 1)) ((Array.range (2 * 1)).map (z.cells[· % z.cells.size]!)) #[(0, x), (1, y)].toList = some #[x, y] := by
  simp [Instr.fill, cells_one hx, cells_one hy, cells_one hz, Array.range_succ, show Array.range 0 = #[] from rfl]
end Go.Q
namespace Go.Q
structure Rec where
  kind : Int
  gsn : Int
  txn : Int
  prev : Int
  page : Int
  key : Bs
  bh : Bool
  bv : Bs
  ah : Bool
  av : Bs
  undo : Int
deriving DecidableEq
def recC (r : Rec) : List Value := [iV r.kind, iV r.gsn, iV r.txn, iV r.prev, iV r.page, S r.key, .bool r.bh, S r.bv, .bool r.ah, S r.av, iV r.undo]
theorem recC_len (r : Rec) : (recC r).length = 11 := rfl
theorem one_recC (l : List Rec) : ∀ u ∈ l.flatMap recC, u.oneCell' = true := one_flat (fun p u hu => by
  simp only [recC, List.mem_cons, List.not_mem_nil, or_false] at hu
  rcases hu with rfl | rfl | rfl | rfl | rfl | rfl | rfl | rfl | rfl | rfl | rfl <;> rfl) l
def vlC (v : Bool × Bs) : List Value := [.bool v.1, S v.2]
theorem vlC_len (v : Bool × Bs) : (vlC v).length = 2 := rfl
theorem one_vlC (l : List (Bool × Bs)) : ∀ u ∈ l.flatMap vlC, u.oneCell' = true := one_flat (fun p u hu => by
  simp only [vlC, List.mem_cons, List.not_mem_nil, or_false] at hu
  rcases hu with rfl | rfl <;> rfl) l
def rec0 : Rec := ⟨0, 0, 0, 0, 0, [], false, [], false, [], 0⟩
def notP {α : Type} (c : α → Bool) (x : α) : Bool := !c x
theorem any_notP {α : Type} (c : α → Bool) (l : List α) : (!(l.any (notP c))) = l.all c := by
  induction l with
  | nil => rfl
  | cons x t ih => rw [List.any_cons, List.all_cons, ← ih, notP]; cases c x <;> simp
def withinR (n lo hi : Int) : Bool := decide (lo ≤ n) && decide (n ≤ hi)
def chgR (k : Int) : Bool := decide (k = 2) || decide (k = 3)
def keyR (k : Bs) : Bool := decide (k ≠ []) && decide ((k.length : Int) ≤ 8)
def valR (v : Bool × Bs) : Bool := decide ((v.2.length : Int) ≤ 16) && (v.1 || decide (v.2 = []))
def bodyR (r : Rec) : Bool := if chgR r.kind = true then (withinR r.page 0 63 && keyR r.key && (valR (r.bh, r.bv) && valR (r.ah, r.av)) && !(decide (r.bh = r.ah ∧ r.bv = r.av))) else decide (r.page = 0 ∧ r.key = [] ∧ (r.bh = false ∧ r.bv = []) ∧ (r.ah = false ∧ r.av = []))
def undoR (r : Rec) : Bool := if r.kind = 3 then withinR r.undo 1 r.prev else if r.kind = 4 then withinR r.undo 0 255 else decide (r.undo = 0)
def rightR (r : Rec) : Bool := withinR r.kind 1 6 && withinR r.txn 1 2147483647 && withinR r.gsn 1 4611686018427387903 && withinR r.prev 0 (r.gsn - 1) && decide (r.prev = 0 ↔ r.kind = 1) && bodyR r && undoR r
/-- the record that takes another one back -/
def clrR (r : Rec) (gsn prev : Int) : Rec := ⟨3, gsn, r.txn, prev, r.page, r.key, r.ah, r.av, r.bh, r.bv, r.gsn⟩
def backR (r : Rec) (gsn prev : Int) : Rec := if rightR r = true ∧ r.kind = 2 then (if rightR (clrR r gsn prev) = true then clrR r gsn prev else rec0) else rec0
end Go.Q
namespace Go.Q
theorem cb_mid {P : Program} {f : FuncId} {α : Type} {va : α → Array Value} {A : α → Ending → Prop} {E : World} {X R F : List Hp} (h : ∀ {w : World} (F : List Hp) (x : α), Has E w [R, F] → Calls P f (va x) w fun e w' => A x e ∧ Has E w' [R, F]) :
    ∀ {w : World} (F' : List Hp) (x : α), Has E w [[[X, R].flatten, F].flatten, F'] → Calls P f (va x) w fun e w' => A x e ∧ Has E w' [[[X, R].flatten, F].flatten, F'] := fun {w} F' x H => by
  have H2 : Has E w [R, X ++ F ++ F'] := by
    have H3 : Has E w [X, R, F, F'] := by unfold Has at *; simpa using H
    have H4 : Has E w [R, X, F, F'] := H3.front 1 rfl
    unfold Has at *; simpa using H4
  refine (h (X ++ F ++ F') x H2).mono fun e w' ⟨ha, hh⟩ => ⟨ha, ?_⟩
  have H4 : Has E w' [R, X, F, F'] := by unfold Has at *; simpa using hh
  have H3 : Has E w' [X, R, F, F'] := H4.front 1 rfl
  unfold Has at *; simpa using H3
end Go.Q
namespace Go.Q
/-- the slice of the first j elements -/
def headV : Value → Nat → Nat → Value
  | .slice p _ c, j, sz => sliced p 0 j c sz
  | v, _, _ => v
theorem sl_head {L : List Hp} {sz n : Nat} {v : Value} {cs : List Value} (hs : Sl L sz v n cs) {j : Nat} (hj : j ≤ n) : Sl L sz (headV v j sz) j (cs.take (j * sz)) := by
  obtain ⟨p, cap, rfl⟩ := hs.form
  obtain ⟨p', cap', e2, hnc, hcm, hl, hp⟩ := hs
  cases e2
  have hle : j * sz ≤ n * sz := Nat.mul_le_mul_right _ hj
  unfold headV sliced
  refine ⟨_, _, rfl, by omega, by omega, ?_, fun h => ?_⟩
  · rw [List.length_take, hl]; omega
  · obtain ⟨b, off, rfl, hc⟩ := hp (by omega)
    refine ⟨b, off, ?_, hc.take⟩
    split <;> simp [add_lit]
theorem flatMap_take {α β : Type} (f : α → List β) (n : Nat) (hf : ∀ x, (f x).length = n) : ∀ (l : List α) (j : Nat), (l.flatMap f).take (j * n) = (l.take j).flatMap f
  | [], j => by simp
  | x :: l, 0 => by simp
  | x :: l, j + 1 => by
    rw [List.flatMap_cons, List.take_succ_cons, List.flatMap_cons, ← flatMap_take f n hf l j, List.take_append, hf, List.take_of_length_le (by rw [hf, Nat.add_mul]; omega), show (j + 1) * n - n = j * n by rw [Nat.add_mul]; omega]
theorem sl_headf {α : Type} {f : α → List Value} {sz : Nat} (hf : ∀ x, (f x).length = sz) {L : List Hp} {v : Value} {l : List α} (hs : Sl L sz v l.length (l.flatMap f)) {j : Nat} (hj : j ≤ l.length) : Sl L sz (headV v j sz) (l.take j).length ((l.take j).flatMap f) := by
  have h := sl_head hs hj
  rw [flatMap_take f sz hf] at h
  rw [List.length_take, Nat.min_eq_left hj]; exact h
section ops
variable {P : Program} {ρ : Operand → Value} {E w : World} {ss : List (List Hp)} {K : Value → World → Prop} {dst : Option Tmp} {T : TypeId} {pos : String} {after : Array Edge} {g : Option (Nat × Bool)}
/-- s[:j] of a row that is read -/
theorem o_slh {x y : Operand} {t e : TypeId} {zz : Value} {v : Value} {sz by_ n : Nat} {cs : List Value} {L : List Hp} {k : IntKind} {j : Int} (ht : P.underlying t = some (.slice e)) (hi : TI P e zz sz by_)
    (hx : ρ x = v) (hs : Sl L sz v n cs) (hy : ρ y = .int k j) (h0 : 0 ≤ j) (h1 : j ≤ n)
    (hK : K (headV v j.toNat sz) w) : OK P ⟨dst, .slice t x none (some y) none, T, pos, after, g⟩ ρ w K := by
  have e1 : P.elem t = e := by simp [Program.elem, ht]
  obtain ⟨p, cap, rfl⟩ := hs.form
  obtain ⟨p', cap', e2, hnc, hcm, hl, hp⟩ := hs
  cases e2
  have hrun : (Instr.sliceAt t (ρ x) ((none : Option Operand).map ρ) ((some y).map ρ) ((none : Option Operand).map ρ)).run P w = .ok (sliced p 0 j.toNat cap sz) w := by
    simp only [hx, hy, Option.map_some, Option.map_none]
    rw [run_sliceAt_slice _ _ _ _ _ _ (by rw [e1]; exact ht), run_slice_any _ _ _ _ _ (by rw [e1]; exact ht), bounds_h h0 (by omega), e1]
    simp only [Result.andThen_ok, hi.size, Int.toNat_natCast]; rfl
  exact OK.val (run_v hrun) hK
end ops
end Go.Q
namespace Go.Q
section
variable {P : Program} {E w : World} {ss : List (List Hp)} {N : Nat} {r : Nat → Value}
theorem run_loadVarN {t : TypeId} {d : TypeDesc} {L : List Hp} {b off : Nat} {cs : List Value} {z : Value} {by_ : Nat} (ht : P.underlying t = some d) (hd : aggB d = true)
    (hi : TI P t z cs.length by_) (H : Has E w ss) (hL : L ⊆ ss.flatten) (hc : CellsAt L b off cs) : (loadVar t ⟨b, off, none⟩).run P w = .ok (.agg cs.toArray) w := by
  simp only [Sem.run_bind, Sem.run_pure, Result.andThen_ok, loadVar, run_isAgg ht, hd, if_true, hi.size]
  rw [run_loadCells_list (P := P) (w := w) ⟨b, off, none⟩ cs (fun j v hv => by rw [add_lit]; exact H.cell hL hc hv)]
  rfl
theorem run_loadVar1 {t : TypeId} {d : TypeDesc} {L : List Hp} {b off : Nat} {v : Value} (ht : P.underlying t = some d) (hd : aggB d = false)
    (H : Has E w ss) (hL : L ⊆ ss.flatten) (hc : CellsAt L b off [v]) : (loadVar t ⟨b, off, none⟩).run P w = .ok v w := by
  have e := H.cell (j := 0) (v := v) hL hc rfl
  simp only [Sem.run_bind, Sem.run_pure, Result.andThen_ok, loadVar, run_isAgg ht, hd]
  simp only [Bool.false_eq_true, if_false, run_load]
  rw [show (⟨b, off, none⟩ : Addr) = ⟨b, off + 0, none⟩ from rfl, e]
theorem c_retC1 {fn : Func} {R : Ending → World → Prop} {t : Tmp} {T : TypeId} {a : Addr} {v : Value} (hr : fn.results = #[.cell t T]) (hv : ev N r (.tmp t) = .pointer (some a)) (hl : (loadVar T a).run P w = .ok v w) (hR : R (.returned v) w) :
    bodyPost P fn R .ret (Go.Q.fr N r) w := by
  refine bodyPost_ret (v := v) ?_ rfl hR
  have e : ∀ t, (Go.Q.fr N r).tmps[t]?.getD undef = ev N r (.tmp t) := fun t => by rw [← getD_fr, Array.getD_eq_getD_getElem?]
  simp [results, hr, e, hv, asAddr, hl]
theorem c_retC2 {fn : Func} {R : Ending → World → Prop} {t u : Tmp} {T : TypeId} {a : Addr} {v x : Value} (hr : fn.results = #[.cell t T, .tmp u]) (hv : ev N r (.tmp t) = .pointer (some a)) (hl : (loadVar T a).run P w = .ok v w) (hx : ev N r (.tmp u) = x)
    (hR : R (.returned (.tuple #[v, x])) w) : bodyPost P fn R .ret (Go.Q.fr N r) w := by
  refine bodyPost_ret (v := .tuple #[v, x]) ?_ rfl hR
  have e : ∀ t, (Go.Q.fr N r).tmps[t]?.getD undef = ev N r (.tmp t) := fun t => by rw [← getD_fr, Array.getD_eq_getD_getElem?]
  simp [results, hr, e, hv, asAddr, hl, hx]
theorem c_retC3 {fn : Func} {R : Ending → World → Prop} {t u s : Tmp} {T : TypeId} {a : Addr} {v x y : Value} (hr : fn.results = #[.cell t T, .tmp u, .tmp s]) (hv : ev N r (.tmp t) = .pointer (some a)) (hl : (loadVar T a).run P w = .ok v w) (hx : ev N r (.tmp u) = x) (hy : ev N r (.tmp s) = y)
    (hR : R (.returned (.tuple #[v, x, y])) w) : bodyPost P fn R .ret (Go.Q.fr N r) w := by
  refine bodyPost_ret (v := .tuple #[v, x, y]) ?_ rfl hR
  have e : ∀ t, (Go.Q.fr N r).tmps[t]?.getD undef = ev N r (.tmp t) := fun t => by rw [← getD_fr, Array.getD_eq_getD_getElem?]
  simp [results, hr, e, hv, asAddr, hl, hx, hy]
end
end Go.Q
namespace Go.Q
open Go.Proofs
set_option linter.unusedVariables false
set_option maxRecDepth 100000
attribute [local irreducible] wpList OK Code.wp
set_option maxHeartbeats 4000000 in
theorem within_c {E w : World} {R : List Hp} {n : Int} {lo : Int} {hi : Int}  (hH : Has E w [R]) :
    Calls Try.prog 175 #[(.int .i64 n), (.int .i64 lo), (.int .i64 hi)] w fun e w' => e = .returned (.bool (withinR n lo hi)) ∧ Has E w' [R] := by
  refine c_enter (args := [(.int .i64 n), (.int .i64 lo), (.int .i64 hi)]) Try.func175 rfl Try.ntmps175 (by simp) ?_
  refine wp_seq_k fun K1 hK1 => ?_
  refine c_region ?_
  refine s_op (o_assign (v := (.bool false)) rfl ?_)
  refine s_nil ?_
  refine t_norm (hK1 _ _ ?_)
  refine wp_seq_k fun K2 hK2 => ?_
  refine c_region ?_
  refine s_op (o_move (v := (.int .i64 n)) rfl ?_)
  refine s_op (o_move (v := (.int .i64 lo)) rfl ?_)
  refine s_op (o_geq (a := n) (b := lo) rfl rfl ?_)
  refine s_op (o_move (v := (.bool (decide (lo ≤ n)))) rfl ?_)
  by_cases h3 : lo ≤ n
  · -- lo ≤ n
    refine s_on 10 rfl (congrArg Value.bool (decide_eq_true h3)) (o_move (v := (.int .i64 n)) rfl ?_)
    refine s_on 10 rfl (congrArg Value.bool (decide_eq_true h3)) (o_move (v := (.int .i64 hi)) rfl ?_)
    refine s_on 10 rfl (congrArg Value.bool (decide_eq_true h3)) (o_leq (a := n) (b := hi) rfl rfl ?_)
    refine s_op (o_pick_t (u := (.bool (decide (n ≤ hi)))) ((rfl : _ = _).trans (congrArg Value.bool (decide_eq_true h3))) rfl ?_)
    refine s_op (o_assign (v := (.bool (decide (n ≤ hi)))) rfl ?_)
    refine s_nil ?_
    refine t_norm (hK2 _ _ ?_)
    refine wp_ret ?_
    refine c_ret1 Try.results175  (v := (.bool (decide (n ≤ hi)))) rfl ?_
    have q4 : (withinR n lo hi) = decide (n ≤ hi) := by rw [Bool.eq_iff_iff]; first | (simp [withinR, h3]; done) | (simp_all [withinR]; done)
    exact ⟨by rw [q4], hH⟩
  · -- not: lo ≤ n
    refine s_off (b' := false) 10 rfl (congrArg Value.bool (decide_eq_false h3)) rfl ?_
    refine s_off (b' := false) 10 rfl (congrArg Value.bool (decide_eq_false h3)) rfl ?_
    refine s_off (b' := false) 10 rfl (congrArg Value.bool (decide_eq_false h3)) rfl ?_
    refine s_op (o_pick_f (u := (.bool false)) ((rfl : _ = _).trans (congrArg Value.bool (decide_eq_false h3))) rfl ?_)
    refine s_op (o_assign (v := (.bool false)) rfl ?_)
    refine s_nil ?_
    refine t_norm (hK2 _ _ ?_)
    refine wp_ret ?_
    refine c_ret1 Try.results175  (v := (.bool false)) rfl ?_
    have q5 : (withinR n lo hi) = false := by rw [Bool.eq_iff_iff]; first | (simp [withinR, h3]; done) | (simp_all [withinR]; done)
    exact ⟨by rw [q5], hH⟩
set_option maxHeartbeats 4000000 in
theorem changes_c {E w : World} {R : List Hp} {kind : Int}  (hH : Has E w [R]) :
    Calls Try.prog 198 #[(.int .i64 kind)] w fun e w' => e = .returned (.bool (chgR kind)) ∧ Has E w' [R] := by
  refine c_enter (args := [(.int .i64 kind)]) Try.func198 rfl Try.ntmps198 (by simp) ?_
  refine wp_seq_k fun K1 hK1 => ?_
  refine c_region ?_
  refine s_op (o_assign (v := (.bool false)) rfl ?_)
  refine s_nil ?_
  refine t_norm (hK1 _ _ ?_)
  refine wp_seq_k fun K2 hK2 => ?_
  refine c_region ?_
  refine s_op (o_move (v := (.int .i64 kind)) rfl ?_)
  refine s_op (o_eql (a := kind) (b := 2) rfl rfl ?_)
  refine s_op (o_move (v := (.bool (decide (kind = 2)))) rfl ?_)
  by_cases h3 : kind = 2
  · -- kind = 2
    refine s_off (b' := true) 5 rfl (congrArg Value.bool (decide_eq_true h3)) rfl ?_
    refine s_off (b' := true) 5 rfl (congrArg Value.bool (decide_eq_true h3)) rfl ?_
    refine s_op (o_pick_t (u := (.bool true)) ((rfl : _ = _).trans (congrArg Value.bool (decide_eq_true h3))) rfl ?_)
    refine s_op (o_assign (v := (.bool true)) rfl ?_)
    refine s_nil ?_
    refine t_norm (hK2 _ _ ?_)
    refine wp_ret ?_
    refine c_ret1 Try.results198  (v := (.bool true)) rfl ?_
    have q4 : (chgR kind) = true := by rw [Bool.eq_iff_iff]; first | (simp [chgR, h3]; done) | (simp_all [chgR]; done)
    exact ⟨by rw [q4], hH⟩
  · -- not: kind = 2
    refine s_on 5 rfl (congrArg Value.bool (decide_eq_false h3)) (o_move (v := (.int .i64 kind)) rfl ?_)
    refine s_on 5 rfl (congrArg Value.bool (decide_eq_false h3)) (o_eql (a := kind) (b := 3) rfl rfl ?_)
    refine s_op (o_pick_f (u := (.bool (decide (kind = 3)))) ((rfl : _ = _).trans (congrArg Value.bool (decide_eq_false h3))) rfl ?_)
    refine s_op (o_assign (v := (.bool (decide (kind = 3)))) rfl ?_)
    refine s_nil ?_
    refine t_norm (hK2 _ _ ?_)
    refine wp_ret ?_
    refine c_ret1 Try.results198  (v := (.bool (decide (kind = 3)))) rfl ?_
    have q5 : (chgR kind) = decide (kind = 3) := by rw [Bool.eq_iff_iff]; first | (simp [chgR, h3]; done) | (simp_all [chgR]; done)
    exact ⟨by rw [q5], hH⟩
set_option maxHeartbeats 4000000 in
theorem keyf_c {E w : World} {R : List Hp} {k : Bs}  (hH : Has E w [R]) :
    Calls Try.prog 217 #[(S k)] w fun e w' => e = .returned (.bool (keyR k)) ∧ Has E w' [R] := by
  refine c_enter (args := [(S k)]) Try.func217 rfl Try.ntmps217 (by simp) ?_
  refine wp_seq_k fun K1 hK1 => ?_
  refine c_region ?_
  refine s_op (o_assign (v := (.bool false)) rfl ?_)
  refine s_nil ?_
  refine t_norm (hK1 _ _ ?_)
  refine wp_seq_k fun K2 hK2 => ?_
  refine c_region ?_
  refine s_op (o_move (v := (S k)) rfl ?_)
  refine s_op (o_sneq (a := k) (b := ([] : List UInt8)) rfl rfl ?_)
  refine s_op (o_move (v := (.bool (decide (k ≠ ([] : List UInt8))))) rfl ?_)
  by_cases h3 : k ≠ ([] : List UInt8)
  · -- k ≠ ([] : List UInt8)
    refine s_on 5 rfl (congrArg Value.bool (decide_eq_true h3)) (o_move (v := (S k)) rfl ?_)
    refine s_on 5 rfl (congrArg Value.bool (decide_eq_true h3)) (o_slen Try.underlying9 rfl ?_)
    refine s_on 5 rfl (congrArg Value.bool (decide_eq_true h3)) (o_leq (a := (k.length : Int)) (b := 8) rfl rfl ?_)
    refine s_op (o_pick_t (u := (.bool (decide ((k.length : Int) ≤ 8)))) ((rfl : _ = _).trans (congrArg Value.bool (decide_eq_true h3))) rfl ?_)
    refine s_op (o_assign (v := (.bool (decide ((k.length : Int) ≤ 8)))) rfl ?_)
    refine s_nil ?_
    refine t_norm (hK2 _ _ ?_)
    refine wp_ret ?_
    refine c_ret1 Try.results217  (v := (.bool (decide ((k.length : Int) ≤ 8)))) rfl ?_
    have q4 : (keyR k) = decide ((k.length : Int) ≤ 8) := by rw [Bool.eq_iff_iff]; first | (simp [keyR, h3]; done) | (simp_all [keyR]; done)
    exact ⟨by rw [q4], hH⟩
  · -- not: k ≠ ([] : List UInt8)
    refine s_off (b' := false) 5 rfl (congrArg Value.bool (decide_eq_false h3)) rfl ?_
    refine s_off (b' := false) 5 rfl (congrArg Value.bool (decide_eq_false h3)) rfl ?_
    refine s_off (b' := false) 5 rfl (congrArg Value.bool (decide_eq_false h3)) rfl ?_
    refine s_op (o_pick_f (u := (.bool false)) ((rfl : _ = _).trans (congrArg Value.bool (decide_eq_false h3))) rfl ?_)
    refine s_op (o_assign (v := (.bool false)) rfl ?_)
    refine s_nil ?_
    refine t_norm (hK2 _ _ ?_)
    refine wp_ret ?_
    refine c_ret1 Try.results217  (v := (.bool false)) rfl ?_
    have q5 : (keyR k) = false := by rw [Bool.eq_iff_iff]; first | (simp [keyR, h3]; done) | (simp_all [keyR]; done)
    exact ⟨by rw [q5], hH⟩
set_option maxHeartbeats 4000000 in
theorem valf_c {E w : World} {R : List Hp} {v : Bool × Bs}  (hH : Has E w [R]) :
    Calls Try.prog 219 #[(.agg #[(.bool v.1), (S v.2)])] w fun e w' => e = .returned (.bool (valR v)) ∧ Has E w' [R] := by
  refine c_enter (args := [(.agg #[(.bool v.1), (S v.2)])]) Try.func219 rfl Try.ntmps219 (by simp) ?_
  refine wp_seq_k fun K1 hK1 => ?_
  refine c_region ?_
  refine s_op (o_box (cs := #[(.bool v.1), (S v.2)]) rfl rfl hH fun b2 w3 hH4 => ?_)
  refine s_op (o_assign (v := (.bool false)) rfl ?_)
  refine s_nil ?_
  refine t_norm (hK1 _ _ ?_)
  refine wp_seq_k fun K5 hK5 => ?_
  refine c_region ?_
  refine s_op (o_fieldAddr (k := 1) (fun _ => by kernel_rfl) rfl ?_)
  refine s_op (o_load1 (v := (S v.2)) Try.underlying9 rfl rfl hH4 (seg_sub 0 rfl) (CellsAt.one rfl) ?_)
  refine s_op (o_slen Try.underlying9 rfl ?_)
  refine s_op (o_leq (a := (v.2.length : Int)) (b := 16) rfl rfl ?_)
  refine s_op (o_move (v := (.bool (decide ((v.2.length : Int) ≤ 16)))) rfl ?_)
  by_cases h6 : (v.2.length : Int) ≤ 16
  · -- (v.2.length : Int) ≤ 16
    refine s_on 7 rfl (congrArg Value.bool (decide_eq_true h6)) (o_fieldAddr (k := 0) (fun _ => by kernel_rfl) rfl ?_)
    refine s_on 7 rfl (congrArg Value.bool (decide_eq_true h6)) (o_load1 (v := (.bool v.1)) Try.underlying4 rfl rfl hH4 (seg_sub 0 rfl) (CellsAt.one rfl) ?_)
    refine s_on 7 rfl (congrArg Value.bool (decide_eq_true h6)) (o_move (v := (.bool v.1)) rfl ?_)
    rcases Bool.eq_false_or_eq_true v.1 with h7 | h7
    · -- v.1
      refine s_off (b' := true) 10 rfl (congrArg Value.bool h7) rfl ?_
      refine s_off (b' := true) 10 rfl (congrArg Value.bool h7) rfl ?_
      refine s_off (b' := true) 10 rfl (congrArg Value.bool h7) rfl ?_
      refine s_on 7 rfl (congrArg Value.bool (decide_eq_true h6)) (o_pick_t (u := (.bool true)) ((rfl : _ = _).trans (congrArg Value.bool h7)) rfl ?_)
      refine s_op (o_pick_t (u := (.bool true)) ((rfl : _ = _).trans (congrArg Value.bool (decide_eq_true h6))) rfl ?_)
      refine s_op (o_assign (v := (.bool true)) rfl ?_)
      refine s_nil ?_
      refine t_norm (hK5 _ _ ?_)
      refine wp_ret ?_
      refine c_ret1 Try.results219  (v := (.bool true)) rfl ?_
      have q8 : (valR v) = true := by rw [Bool.eq_iff_iff]; first | (simp [valR, h6, h7]; done) | (simp_all [valR]; done)
      have hH9 : Has E w3 [R] := (hH4.front 1 rfl).first 1 rfl
      exact ⟨by rw [q8], hH9⟩
    · -- not: v.1
      refine s_on 10 rfl (congrArg Value.bool h7) (o_fieldAddr (k := 1) (fun _ => by kernel_rfl) rfl ?_)
      refine s_on 10 rfl (congrArg Value.bool h7) (o_load1 (v := (S v.2)) Try.underlying9 rfl rfl hH4 (seg_sub 0 rfl) (CellsAt.one rfl) ?_)
      refine s_on 10 rfl (congrArg Value.bool h7) (o_seql (a := v.2) (b := ([] : List UInt8)) rfl rfl ?_)
      refine s_on 7 rfl (congrArg Value.bool (decide_eq_true h6)) (o_pick_f (u := (.bool (decide (v.2 = ([] : List UInt8))))) ((rfl : _ = _).trans (congrArg Value.bool h7)) rfl ?_)
      refine s_op (o_pick_t (u := (.bool (decide (v.2 = ([] : List UInt8))))) ((rfl : _ = _).trans (congrArg Value.bool (decide_eq_true h6))) rfl ?_)
      refine s_op (o_assign (v := (.bool (decide (v.2 = ([] : List UInt8))))) rfl ?_)
      refine s_nil ?_
      refine t_norm (hK5 _ _ ?_)
      refine wp_ret ?_
      refine c_ret1 Try.results219  (v := (.bool (decide (v.2 = ([] : List UInt8))))) rfl ?_
      have q10 : (valR v) = decide (v.2 = ([] : List UInt8)) := by rw [Bool.eq_iff_iff]; first | (simp [valR, h6, h7]; done) | (simp_all [valR]; done)
      have hH11 : Has E w3 [R] := (hH4.front 1 rfl).first 1 rfl
      exact ⟨by rw [q10], hH11⟩
  · -- not: (v.2.length : Int) ≤ 16
    refine s_off (b' := false) 7 rfl (congrArg Value.bool (decide_eq_false h6)) rfl ?_
    refine s_off (b' := false) 7 rfl (congrArg Value.bool (decide_eq_false h6)) rfl ?_
    refine s_off (b' := false) 7 rfl (congrArg Value.bool (decide_eq_false h6)) rfl ?_
    refine s_offu 10 rfl rfl ?_
    refine s_offu 10 rfl rfl ?_
    refine s_offu 10 rfl rfl ?_
    refine s_off (b' := false) 7 rfl (congrArg Value.bool (decide_eq_false h6)) rfl ?_
    refine s_op (o_pick_f (u := (.bool false)) ((rfl : _ = _).trans (congrArg Value.bool (decide_eq_false h6))) rfl ?_)
    refine s_op (o_assign (v := (.bool false)) rfl ?_)
    refine s_nil ?_
    refine t_norm (hK5 _ _ ?_)
    refine wp_ret ?_
    refine c_ret1 Try.results219  (v := (.bool false)) rfl ?_
    have q12 : (valR v) = false := by rw [Bool.eq_iff_iff]; first | (simp [valR, h6]; done) | (simp_all [valR]; done)
    have hH13 : Has E w3 [R] := (hH4.front 1 rfl).first 1 rfl
    exact ⟨by rw [q12], hH13⟩
end Go.Q
namespace Go.Q
open Go.Proofs
set_option linter.unusedVariables false
set_option maxRecDepth 100000
attribute [local irreducible] wpList OK Code.wp
set_option maxHeartbeats 4000000 in
theorem rindexf_c {E w : World} {R : List Hp} {v_l : Value} {l : List Rec} {fn : FuncId} {first cap : Array Value} {va : Value → Array Value} {c : Rec → Bool}  (hH : Has E w [R]) (h_l : Sl R 11 v_l l.length (l.flatMap recC)) (hcl : Callable Try.prog fn) (hva : ∀ v, first ++ #[v] ++ cap = va v) (hcb : ∀ {w : World} (F_ : List Hp) (x_ : Rec), Has E w [R, F_] → Calls Try.prog fn (va (.agg #[(.int .i64 x_.kind), (.int .i64 x_.gsn), (.int .i64 x_.txn), (.int .i64 x_.prev), (.int .i64 x_.page), (S x_.key), (.bool x_.bh), (S x_.bv), (.bool x_.ah), (S x_.av), (.int .i64 x_.undo)])) w fun e w' => e = .returned (.bool (c x_)) ∧ Has E w' [R, F_]) :
    Calls Try.prog 197 #[v_l, (.func (.func fn) first cap)] w fun e w' => e = .returned (.int .i64 (idxG c l)) ∧ Has E w' [R] := by
  have hn_ := h_l.le
  refine c_enter (args := [v_l, (.func (.func fn) first cap)]) Try.func197 rfl Try.ntmps197 (by simp) ?_
  refine wp_seq_k fun K1 hK1 => ?_
  refine c_region ?_
  refine s_op (o_assign (v := (.int .i64 0)) rfl ?_)
  refine s_nil ?_
  refine t_norm (hK1 _ _ ?_)
  refine wp_seq_k fun K2 hK2 => ?_
  refine wp_seq_k fun K3 hK3 => ?_
  refine c_region ?_
  refine s_op (o_move (v := v_l) rfl ?_)
  refine s_op (o_lenS Try.underlying22 rfl h_l ?_)
  refine s_op (o_move (v := (.int .i64 0)) rfl ?_)
  refine s_nil ?_
  refine t_norm (hK3 _ _ ?_)
  refine wp_block ?_
  let I5 : Nat → (Nat → Value) → World → Prop := fun n__ r__ w__ => ∃ (k : Nat), n__ = l.length - k ∧ Has E w__ [R] ∧ (k ≤ l.length) ∧ (∀ j, j < k → ∀ y, l[j]? = some y → c y = false) ∧ r__ 0 = v_l ∧ r__ 1 = (.func (.func fn) first cap) ∧ r__ 7 = (.int .i64 ((l.length : Nat) : Int)) ∧ r__ 8 = (.int .i64 (k : Int))
  refine c_loop I5 _ ⟨0, rfl, hH, Nat.zero_le _, fun j hj => by omega, rfl, rfl, rfl, rfl⟩ ?_
  rintro n_ r8 w6 ⟨k, rfl, hH7, hk, hf, e4_0, e4_1, e4_7, e4_8⟩
  refine wp_seq_k fun K9 hK9 => ?_
  refine c_region ?_
  refine s_op (o_lss (a := (k : Int)) (b := ((l.length : Nat) : Int)) e4_8 e4_7 ?_)
  refine s_nil ?_
  refine t_norm (hK9 _ _ ?_)
  refine wp_seq_k fun K10 hK10 => ?_
  refine c_cond rfl (fun h11 => ?_) (fun h11 => ?_)
  · -- (k : Int) < ((l.length : Nat) : Int)
    refine wp_skip ?_
    refine t_norm (hK10 _ _ ?_)
    refine wp_seq_k fun K12 hK12 => ?_
    refine wp_block ?_
    refine wp_seq_k fun K13 hK13 => ?_
    refine c_region ?_
    refine s_op (o_move (v := (.int .i64 (k : Int))) e4_8 ?_)
    refine s_op (o_assign (v := (.int .i64 (k : Int))) rfl ?_)
    refine s_nil ?_
    refine t_norm (hK13 _ _ ?_)
    refine wp_seq_k fun K14 hK14 => ?_
    refine c_region ?_
    refine s_op (o_move (v := (.func (.func fn) first cap)) e4_1 ?_)
    refine s_op (o_move (v := v_l) e4_0 ?_)
    refine s_op (o_move (v := (.int .i64 (k : Int))) rfl ?_)
    obtain ⟨x18, hx19⟩ : ∃ x_, l[((k : Int)).toNat]? = some x_ := get_some (by omega)
    refine s_op (o_indexF recC_len Try.underlying22 ti32 rfl h_l rfl rfl (by omega) hx19 fun b15 o16 hc17 => ?_)
    refine s_op (o_loadN (cs := [(.int .i64 x18.kind), (.int .i64 x18.gsn), (.int .i64 x18.txn), (.int .i64 x18.prev), (.int .i64 x18.page), (S x18.key), (.bool x18.bh), (S x18.bv), (.bool x18.ah), (S x18.av), (.int .i64 x18.undo)]) Try.underlying32 rfl ti32 rfl hH7 (seg_sub 0 rfl) hc17 ?_)
    refine s_op (o_callf (first := first) (captured := cap) (vs := va (.agg #[(.int .i64 x18.kind), (.int .i64 x18.gsn), (.int .i64 x18.txn), (.int .i64 x18.prev), (.int .i64 x18.page), (S x18.key), (.bool x18.bh), (S x18.bv), (.bool x18.ah), (S x18.av), (.int .i64 x18.undo)])) hcl rfl ((argsG1 rfl).trans (hva _)) (hcb _ x18 hH7.all1) ?_)
    rintro _ w22 ⟨rfl, hX20⟩
    refine ⟨_, rfl, ?_⟩
    have hH21 := hX20.of_all1
    refine s_nil ?_
    refine t_norm (hK14 _ _ ?_)
    refine c_condb rfl (fun h23 => ?_) (fun h23 => ?_)
    · -- c x18
      refine wp_seq_k fun K24 hK24 => ?_
      refine c_region ?_
      refine s_op (o_move (v := (.int .i64 (k : Int))) rfl ?_)
      refine s_op (o_assign (v := (.int .i64 (k : Int))) rfl ?_)
      refine s_nil ?_
      refine t_norm (hK24 _ _ ?_)
      refine wp_ret ?_
      refine b_ret (t_ret (t_ret (b_ret (t_ret (c_ret1 Try.results197  (v := (.int .i64 (k : Int))) rfl ?_)))))
      have q25 : idxG c l = (k : Int) := by exact idxG_some hf (show l[k]? = some _ from hx19) h23
      exact ⟨by rw [q25], hH21⟩
    · -- not: c x18
      refine wp_skip ?_
      refine b_norm ?_
      refine t_norm (hK12 _ _ ?_)
      refine c_region ?_
      refine s_op (o_add (a := (k : Int)) (b := 1) e4_8 rfl (w64 (by omega) (by omega)) ?_)
      refine s_op (o_move (v := (.int .i64 ((k : Int) + 1))) rfl ?_)
      refine s_nil ?_
      refine t_norm ⟨l.length - (k + 1), _, rfl, ?_, ?_⟩
      · omega
      · exact ⟨(k + 1), rfl, hH21, (by omega), ((fun j hj y hy => by rcases Nat.lt_or_ge j k with g | g; exact hf j g y hy; obtain rfl : j = k := (by omega); have e_ := hy.symm.trans (show l[j]? = some _ from hx19); cases e_; exact h23)), e4_0, e4_1, e4_7, rfl⟩
  · -- not: (k : Int) < ((l.length : Nat) : Int)
    refine wp_exit ?_
    refine t_exit (t_exit (x_in (?_)))
    refine t_norm (hK2 _ _ ?_)
    refine wp_seq_k fun K26 hK26 => ?_
    refine c_region ?_
    refine s_op (o_assign (v := (.int .i64 (-1))) rfl ?_)
    refine s_nil ?_
    refine t_norm (hK26 _ _ ?_)
    refine wp_ret ?_
    refine c_ret1 Try.results197  (v := (.int .i64 (-1))) rfl ?_
    have q27 : idxG c l = -1 := by exact idxG_none fun j x hx => hf j (by have := (List.getElem?_eq_some_iff.1 hx).1; omega) x hx
    exact ⟨by rw [q27], hH7⟩
set_option maxHeartbeats 4000000 in
theorem rcontainsf_c {E w : World} {R : List Hp} {v_l : Value} {l : List Rec} {fn : FuncId} {first cap : Array Value} {va : Value → Array Value} {c : Rec → Bool}  (hH : Has E w [R]) (h_l : Sl R 11 v_l l.length (l.flatMap recC)) (hcl : Callable Try.prog fn) (hva : ∀ v, first ++ #[v] ++ cap = va v) (hcb : ∀ {w : World} (F_ : List Hp) (x_ : Rec), Has E w [R, F_] → Calls Try.prog fn (va (.agg #[(.int .i64 x_.kind), (.int .i64 x_.gsn), (.int .i64 x_.txn), (.int .i64 x_.prev), (.int .i64 x_.page), (S x_.key), (.bool x_.bh), (S x_.bv), (.bool x_.ah), (S x_.av), (.int .i64 x_.undo)])) w fun e w' => e = .returned (.bool (c x_)) ∧ Has E w' [R, F_]) :
    Calls Try.prog 173 #[v_l, (.func (.func fn) first cap)] w fun e w' => e = .returned (.bool (l.any c)) ∧ Has E w' [R] := by
  refine c_enter (args := [v_l, (.func (.func fn) first cap)]) Try.func173 rfl Try.ntmps173 (by simp) ?_
  refine wp_seq_k fun K1 hK1 => ?_
  refine c_region ?_
  refine s_op (o_assign (v := (.bool false)) rfl ?_)
  refine s_nil ?_
  refine t_norm (hK1 _ _ ?_)
  refine wp_seq_k fun K2 hK2 => ?_
  refine c_region ?_
  refine s_op (o_move (v := v_l) rfl ?_)
  refine s_op (o_move (v := (.func (.func fn) first cap)) rfl ?_)
  refine s_op (o_callf (vs := #[v_l, (.func (.func fn) first cap)]) ca197 rfl (args2 rfl rfl) (rindexf_c (l := l) (c := c) (va := va) hH.all (h_l.mono (seg_sub 0 rfl)) hcl hva (cb_more (α := Rec) (R := R) (va := fun x_ => va (.agg #[(.int .i64 x_.kind), (.int .i64 x_.gsn), (.int .i64 x_.txn), (.int .i64 x_.prev), (.int .i64 x_.page), (S x_.key), (.bool x_.bh), (S x_.bv), (.bool x_.ah), (S x_.av), (.int .i64 x_.undo)])) (A := fun x_ e_ => e_ = .returned (.bool (c x_))) hcb)) ?_)
  rintro _ w5 ⟨rfl, hX3⟩
  refine ⟨_, rfl, ?_⟩
  have hH4 := hX3.of_all
  refine s_op (o_geq (a := idxG c l) (b := 0) rfl rfl ?_)
  refine s_op (o_assign (v := (.bool (decide (0 ≤ idxG c l)))) rfl ?_)
  refine s_nil ?_
  refine t_norm (hK2 _ _ ?_)
  refine wp_ret ?_
  refine c_ret1 Try.results173  (v := (.bool (decide (0 ≤ idxG c l)))) rfl ?_
  have q6 : l.any c = decide (0 ≤ idxG c l) := by exact idxG_any.symm
  exact ⟨by rw [q6], hH4⟩
set_option maxHeartbeats 4000000 in
theorem all1r_c {E w : World} {R : List Hp} {x : Rec} {bx : Nat}  {fn : FuncId} {first cap : Array Value} {va : Value → Array Value} {c : Rec → Bool}  (hH : Has E w [R]) (h_bx : CellsAt R bx 0 [(.func (.func fn) first cap)]) (hcl : Callable Try.prog fn) (hva : ∀ v, first ++ #[v] ++ cap = va v) (hcb : ∀ {w : World} (F_ : List Hp) (x_ : Rec), Has E w [R, F_] → Calls Try.prog fn (va (.agg #[(.int .i64 x_.kind), (.int .i64 x_.gsn), (.int .i64 x_.txn), (.int .i64 x_.prev), (.int .i64 x_.page), (S x_.key), (.bool x_.bh), (S x_.bv), (.bool x_.ah), (S x_.av), (.int .i64 x_.undo)])) w fun e w' => e = .returned (.bool (c x_)) ∧ Has E w' [R, F_]) :
    Calls Try.prog 174 #[(.agg #[(.int .i64 x.kind), (.int .i64 x.gsn), (.int .i64 x.txn), (.int .i64 x.prev), (.int .i64 x.page), (S x.key), (.bool x.bh), (S x.bv), (.bool x.ah), (S x.av), (.int .i64 x.undo)]), (.pointer (some ⟨bx, 0, none⟩))] w fun e w' => e = .returned (.bool (notP c x)) ∧ Has E w' [R] := by
  refine c_enter (args := [(.agg #[(.int .i64 x.kind), (.int .i64 x.gsn), (.int .i64 x.txn), (.int .i64 x.prev), (.int .i64 x.page), (S x.key), (.bool x.bh), (S x.bv), (.bool x.ah), (S x.av), (.int .i64 x.undo)]), (.pointer (some ⟨bx, 0, none⟩))]) Try.func174 rfl Try.ntmps174 (by simp) ?_
  refine wp_seq_k fun K1 hK1 => ?_
  refine c_region ?_
  refine s_op (o_box (cs := #[(.int .i64 x.kind), (.int .i64 x.gsn), (.int .i64 x.txn), (.int .i64 x.prev), (.int .i64 x.page), (S x.key), (.bool x.bh), (S x.bv), (.bool x.ah), (S x.av), (.int .i64 x.undo)]) rfl rfl hH fun b2 w3 hH4 => ?_)
  refine s_op (o_assign (v := (.bool false)) rfl ?_)
  refine s_nil ?_
  refine t_norm (hK1 _ _ ?_)
  refine wp_seq_k fun K5 hK5 => ?_
  refine c_region ?_
  refine s_op (o_load1 (v := (.func (.func fn) first cap)) Try.underlying231 rfl rfl hH4 (seg_sub 1 rfl) h_bx ?_)
  refine s_op (o_loadN (cs := [(.int .i64 x.kind), (.int .i64 x.gsn), (.int .i64 x.txn), (.int .i64 x.prev), (.int .i64 x.page), (S x.key), (.bool x.bh), (S x.bv), (.bool x.ah), (S x.av), (.int .i64 x.undo)]) Try.underlying32 rfl ti32 rfl hH4 (seg_sub 0 rfl) (CellsAt.one rfl) ?_)
  refine s_op (o_callf (first := first) (captured := cap) (vs := va (.agg #[(.int .i64 x.kind), (.int .i64 x.gsn), (.int .i64 x.txn), (.int .i64 x.prev), (.int .i64 x.page), (S x.key), (.bool x.bh), (S x.bv), (.bool x.ah), (S x.av), (.int .i64 x.undo)])) hcl rfl ((argsG1 rfl).trans (hva _)) (hcb _ x (hH4.front 1 rfl).all1) ?_)
  rintro _ w8 ⟨rfl, hX6⟩
  refine ⟨_, rfl, ?_⟩
  have hH7 := hX6.of_all1
  refine s_op (o_not rfl ?_)
  refine s_op (o_assign (v := (.bool (!(c x)))) rfl ?_)
  refine s_nil ?_
  refine t_norm (hK5 _ _ ?_)
  refine wp_ret ?_
  refine c_ret1 Try.results174  (v := (.bool (!(c x)))) rfl ?_
  have q9 : (notP c x) = !(c x) := by rfl
  have hH10 : Has E w8 [R] := hH7.first 1 rfl
  exact ⟨by rw [q9], hH10⟩
set_option maxHeartbeats 4000000 in
theorem allr_c {E w : World} {R : List Hp} {v_l : Value} {l : List Rec} {fn : FuncId} {first cap : Array Value} {va : Value → Array Value} {c : Rec → Bool}  (hH : Has E w [R]) (h_l : Sl R 11 v_l l.length (l.flatMap recC)) (hcl : Callable Try.prog fn) (hva : ∀ v, first ++ #[v] ++ cap = va v) (hcb : ∀ {w : World} (F_ : List Hp) (x_ : Rec), Has E w [R, F_] → Calls Try.prog fn (va (.agg #[(.int .i64 x_.kind), (.int .i64 x_.gsn), (.int .i64 x_.txn), (.int .i64 x_.prev), (.int .i64 x_.page), (S x_.key), (.bool x_.bh), (S x_.bv), (.bool x_.ah), (S x_.av), (.int .i64 x_.undo)])) w fun e w' => e = .returned (.bool (c x_)) ∧ Has E w' [R, F_]) :
    Calls Try.prog 149 #[v_l, (.func (.func fn) first cap)] w fun e w' => e = .returned (.bool (l.all c)) ∧ Has E w' [R] := by
  refine c_enter (args := [v_l, (.func (.func fn) first cap)]) Try.func149 rfl Try.ntmps149 (by simp) ?_
  refine wp_seq_k fun K1 hK1 => ?_
  refine c_region ?_
  refine s_op (o_box (cs := #[(.func (.func fn) first cap)]) rfl rfl hH fun b2 w3 hH4 => ?_)
  refine s_op (o_assign (v := (.bool false)) rfl ?_)
  refine s_nil ?_
  refine t_norm (hK1 _ _ ?_)
  refine wp_seq_k fun K5 hK5 => ?_
  refine c_region ?_
  refine s_op (o_move (v := v_l) rfl ?_)
  refine s_op (o_makeFunc (vs := #[(.pointer (some ⟨b2, 0, none⟩))]) (cap1 rfl) ?_)
  refine s_op (o_callf (vs := #[v_l, (.func (.func 174) #[] #[(.pointer (some ⟨b2, 0, none⟩))])]) ca173 rfl (args2 rfl rfl) (rcontainsf_c (l := l) (c := notP c) (va := fun v_ => #[v_, (.pointer (some ⟨b2, 0, none⟩))]) hH4.all (h_l.mono (seg_sub 1 rfl)) ca174 (fun _ => by simp) (fun F_ x_ h_ => Calls.frameF (all1r_c (x := x_) (c := c) (va := va) h_.all ((CellsAt.one rfl).mono (fun _ g_ => sub_l ((seg_sub 0 rfl) g_))) hcl hva (cb_mid (α := Rec) (va := fun x_ => va (.agg #[(.int .i64 x_.kind), (.int .i64 x_.gsn), (.int .i64 x_.txn), (.int .i64 x_.prev), (.int .i64 x_.page), (S x_.key), (.bool x_.bh), (S x_.bv), (.bool x_.ah), (S x_.av), (.int .i64 x_.undo)])) (A := fun x_ e_ => e_ = .returned (.bool (c x_))) hcb)))) ?_)
  rintro _ w8 ⟨rfl, hX6⟩
  refine ⟨_, rfl, ?_⟩
  have hH7 := hX6.of_all
  refine s_op (o_not rfl ?_)
  refine s_op (o_assign (v := (.bool (!(l.any (notP c))))) rfl ?_)
  refine s_nil ?_
  refine t_norm (hK5 _ _ ?_)
  refine wp_ret ?_
  refine c_ret1 Try.results149  (v := (.bool (!(l.any (notP c))))) rfl ?_
  have q9 : (l.all c) = !(l.any (notP c)) := by exact (any_notP c l).symm
  have hH10 : Has E w8 [R] := (hH7.front 1 rfl).first 1 rfl
  exact ⟨by rw [q9], hH10⟩
set_option maxHeartbeats 4000000 in
theorem sindexf_c {E w : World} {R : List Hp} {v_l : Value} {l : List (List UInt8)} {fn : FuncId} {first cap : Array Value} {va : Value → Array Value} {c : (List UInt8) → Bool}  (hH : Has E w [R]) (h_l : Sl R 1 v_l l.length (l.map sV)) (hcl : Callable Try.prog fn) (hva : ∀ v, first ++ #[v] ++ cap = va v) (hcb : ∀ {w : World} (F_ : List Hp) (x_ : List UInt8), Has E w [R, F_] → Calls Try.prog fn (va (S x_)) w fun e w' => e = .returned (.bool (c x_)) ∧ Has E w' [R, F_]) :
    Calls Try.prog 231 #[v_l, (.func (.func fn) first cap)] w fun e w' => e = .returned (.int .i64 (idxG c l)) ∧ Has E w' [R] := by
  have hn_ := h_l.le
  refine c_enter (args := [v_l, (.func (.func fn) first cap)]) Try.func231 rfl Try.ntmps231 (by simp) ?_
  refine wp_seq_k fun K1 hK1 => ?_
  refine c_region ?_
  refine s_op (o_assign (v := (.int .i64 0)) rfl ?_)
  refine s_nil ?_
  refine t_norm (hK1 _ _ ?_)
  refine wp_seq_k fun K2 hK2 => ?_
  refine wp_seq_k fun K3 hK3 => ?_
  refine c_region ?_
  refine s_op (o_move (v := v_l) rfl ?_)
  refine s_op (o_lenS Try.underlying53 rfl h_l ?_)
  refine s_op (o_move (v := (.int .i64 0)) rfl ?_)
  refine s_nil ?_
  refine t_norm (hK3 _ _ ?_)
  refine wp_block ?_
  let I5 : Nat → (Nat → Value) → World → Prop := fun n__ r__ w__ => ∃ (k : Nat), n__ = l.length - k ∧ Has E w__ [R] ∧ (k ≤ l.length) ∧ (∀ j, j < k → ∀ y, l[j]? = some y → c y = false) ∧ r__ 0 = v_l ∧ r__ 1 = (.func (.func fn) first cap) ∧ r__ 7 = (.int .i64 ((l.length : Nat) : Int)) ∧ r__ 8 = (.int .i64 (k : Int))
  refine c_loop I5 _ ⟨0, rfl, hH, Nat.zero_le _, fun j hj => by omega, rfl, rfl, rfl, rfl⟩ ?_
  rintro n_ r8 w6 ⟨k, rfl, hH7, hk, hf, e4_0, e4_1, e4_7, e4_8⟩
  refine wp_seq_k fun K9 hK9 => ?_
  refine c_region ?_
  refine s_op (o_lss (a := (k : Int)) (b := ((l.length : Nat) : Int)) e4_8 e4_7 ?_)
  refine s_nil ?_
  refine t_norm (hK9 _ _ ?_)
  refine wp_seq_k fun K10 hK10 => ?_
  refine c_cond rfl (fun h11 => ?_) (fun h11 => ?_)
  · -- (k : Int) < ((l.length : Nat) : Int)
    refine wp_skip ?_
    refine t_norm (hK10 _ _ ?_)
    refine wp_seq_k fun K12 hK12 => ?_
    refine wp_block ?_
    refine wp_seq_k fun K13 hK13 => ?_
    refine c_region ?_
    refine s_op (o_move (v := (.int .i64 (k : Int))) e4_8 ?_)
    refine s_op (o_assign (v := (.int .i64 (k : Int))) rfl ?_)
    refine s_nil ?_
    refine t_norm (hK13 _ _ ?_)
    refine wp_seq_k fun K14 hK14 => ?_
    refine c_region ?_
    refine s_op (o_move (v := (.func (.func fn) first cap)) e4_1 ?_)
    refine s_op (o_move (v := v_l) e4_0 ?_)
    refine s_op (o_move (v := (.int .i64 (k : Int))) rfl ?_)
    obtain ⟨x18, hx19⟩ : ∃ x_, l[((k : Int)).toNat]? = some x_ := get_some (by omega)
    refine s_op (o_index1 Try.underlying53 ti9 rfl h_l rfl (by omega) hx19 fun b15 o16 hc17 => ?_)
    refine s_op (o_load1 (v := (S x18)) Try.underlying9 rfl rfl hH7 (seg_sub 0 rfl) hc17 ?_)
    refine s_op (o_callf (first := first) (captured := cap) (vs := va (S x18)) hcl rfl ((argsG1 rfl).trans (hva _)) (hcb _ x18 hH7.all1) ?_)
    rintro _ w22 ⟨rfl, hX20⟩
    refine ⟨_, rfl, ?_⟩
    have hH21 := hX20.of_all1
    refine s_nil ?_
    refine t_norm (hK14 _ _ ?_)
    refine c_condb rfl (fun h23 => ?_) (fun h23 => ?_)
    · -- c x18
      refine wp_seq_k fun K24 hK24 => ?_
      refine c_region ?_
      refine s_op (o_move (v := (.int .i64 (k : Int))) rfl ?_)
      refine s_op (o_assign (v := (.int .i64 (k : Int))) rfl ?_)
      refine s_nil ?_
      refine t_norm (hK24 _ _ ?_)
      refine wp_ret ?_
      refine b_ret (t_ret (t_ret (b_ret (t_ret (c_ret1 Try.results231  (v := (.int .i64 (k : Int))) rfl ?_)))))
      have q25 : idxG c l = (k : Int) := by exact idxG_some hf (show l[k]? = some _ from hx19) h23
      exact ⟨by rw [q25], hH21⟩
    · -- not: c x18
      refine wp_skip ?_
      refine b_norm ?_
      refine t_norm (hK12 _ _ ?_)
      refine c_region ?_
      refine s_op (o_add (a := (k : Int)) (b := 1) e4_8 rfl (w64 (by omega) (by omega)) ?_)
      refine s_op (o_move (v := (.int .i64 ((k : Int) + 1))) rfl ?_)
      refine s_nil ?_
      refine t_norm ⟨l.length - (k + 1), _, rfl, ?_, ?_⟩
      · omega
      · exact ⟨(k + 1), rfl, hH21, (by omega), ((fun j hj y hy => by rcases Nat.lt_or_ge j k with g | g; exact hf j g y hy; obtain rfl : j = k := (by omega); have e_ := hy.symm.trans (show l[j]? = some _ from hx19); cases e_; exact h23)), e4_0, e4_1, e4_7, rfl⟩
  · -- not: (k : Int) < ((l.length : Nat) : Int)
    refine wp_exit ?_
    refine t_exit (t_exit (x_in (?_)))
    refine t_norm (hK2 _ _ ?_)
    refine wp_seq_k fun K26 hK26 => ?_
    refine c_region ?_
    refine s_op (o_assign (v := (.int .i64 (-1))) rfl ?_)
    refine s_nil ?_
    refine t_norm (hK26 _ _ ?_)
    refine wp_ret ?_
    refine c_ret1 Try.results231  (v := (.int .i64 (-1))) rfl ?_
    have q27 : idxG c l = -1 := by exact idxG_none fun j x hx => hf j (by have := (List.getElem?_eq_some_iff.1 hx).1; omega) x hx
    exact ⟨by rw [q27], hH7⟩
set_option maxHeartbeats 4000000 in
theorem scontainsf_c {E w : World} {R : List Hp} {v_l : Value} {l : List (List UInt8)} {fn : FuncId} {first cap : Array Value} {va : Value → Array Value} {c : (List UInt8) → Bool}  (hH : Has E w [R]) (h_l : Sl R 1 v_l l.length (l.map sV)) (hcl : Callable Try.prog fn) (hva : ∀ v, first ++ #[v] ++ cap = va v) (hcb : ∀ {w : World} (F_ : List Hp) (x_ : List UInt8), Has E w [R, F_] → Calls Try.prog fn (va (S x_)) w fun e w' => e = .returned (.bool (c x_)) ∧ Has E w' [R, F_]) :
    Calls Try.prog 226 #[v_l, (.func (.func fn) first cap)] w fun e w' => e = .returned (.bool (l.any c)) ∧ Has E w' [R] := by
  refine c_enter (args := [v_l, (.func (.func fn) first cap)]) Try.func226 rfl Try.ntmps226 (by simp) ?_
  refine wp_seq_k fun K1 hK1 => ?_
  refine c_region ?_
  refine s_op (o_assign (v := (.bool false)) rfl ?_)
  refine s_nil ?_
  refine t_norm (hK1 _ _ ?_)
  refine wp_seq_k fun K2 hK2 => ?_
  refine c_region ?_
  refine s_op (o_move (v := v_l) rfl ?_)
  refine s_op (o_move (v := (.func (.func fn) first cap)) rfl ?_)
  refine s_op (o_callf (vs := #[v_l, (.func (.func fn) first cap)]) ca231 rfl (args2 rfl rfl) (sindexf_c (l := l) (c := c) (va := va) hH.all (h_l.mono (seg_sub 0 rfl)) hcl hva (cb_more (α := List UInt8) (R := R) (va := fun x_ => va (S x_)) (A := fun x_ e_ => e_ = .returned (.bool (c x_))) hcb)) ?_)
  rintro _ w5 ⟨rfl, hX3⟩
  refine ⟨_, rfl, ?_⟩
  have hH4 := hX3.of_all
  refine s_op (o_geq (a := idxG c l) (b := 0) rfl rfl ?_)
  refine s_op (o_assign (v := (.bool (decide (0 ≤ idxG c l)))) rfl ?_)
  refine s_nil ?_
  refine t_norm (hK2 _ _ ?_)
  refine wp_ret ?_
  refine c_ret1 Try.results226  (v := (.bool (decide (0 ≤ idxG c l)))) rfl ?_
  have q6 : l.any c = decide (0 ≤ idxG c l) := by exact idxG_any.symm
  exact ⟨by rw [q6], hH4⟩
set_option maxHeartbeats 4000000 in
theorem all1s_c {E w : World} {R : List Hp} {x : Bs} {bx : Nat}  {fn : FuncId} {first cap : Array Value} {va : Value → Array Value} {c : (List UInt8) → Bool}  (hH : Has E w [R]) (h_bx : CellsAt R bx 0 [(.func (.func fn) first cap)]) (hcl : Callable Try.prog fn) (hva : ∀ v, first ++ #[v] ++ cap = va v) (hcb : ∀ {w : World} (F_ : List Hp) (x_ : List UInt8), Has E w [R, F_] → Calls Try.prog fn (va (S x_)) w fun e w' => e = .returned (.bool (c x_)) ∧ Has E w' [R, F_]) :
    Calls Try.prog 227 #[(S x), (.pointer (some ⟨bx, 0, none⟩))] w fun e w' => e = .returned (.bool (notP c x)) ∧ Has E w' [R] := by
  refine c_enter (args := [(S x), (.pointer (some ⟨bx, 0, none⟩))]) Try.func227 rfl Try.ntmps227 (by simp) ?_
  refine wp_seq_k fun K1 hK1 => ?_
  refine c_region ?_
  refine s_op (o_assign (v := (.bool false)) rfl ?_)
  refine s_nil ?_
  refine t_norm (hK1 _ _ ?_)
  refine wp_seq_k fun K2 hK2 => ?_
  refine c_region ?_
  refine s_op (o_load1 (v := (.func (.func fn) first cap)) Try.underlying252 rfl rfl hH (seg_sub 0 rfl) h_bx ?_)
  refine s_op (o_move (v := (S x)) rfl ?_)
  refine s_op (o_callf (first := first) (captured := cap) (vs := va (S x)) hcl rfl ((argsG1 rfl).trans (hva _)) (hcb _ x hH.all1) ?_)
  rintro _ w5 ⟨rfl, hX3⟩
  refine ⟨_, rfl, ?_⟩
  have hH4 := hX3.of_all1
  refine s_op (o_not rfl ?_)
  refine s_op (o_assign (v := (.bool (!(c x)))) rfl ?_)
  refine s_nil ?_
  refine t_norm (hK2 _ _ ?_)
  refine wp_ret ?_
  refine c_ret1 Try.results227  (v := (.bool (!(c x)))) rfl ?_
  have q6 : (notP c x) = !(c x) := by rfl
  exact ⟨by rw [q6], hH4⟩
set_option maxHeartbeats 4000000 in
theorem alls_c {E w : World} {R : List Hp} {v_l : Value} {l : List (List UInt8)} {fn : FuncId} {first cap : Array Value} {va : Value → Array Value} {c : (List UInt8) → Bool}  (hH : Has E w [R]) (h_l : Sl R 1 v_l l.length (l.map sV)) (hcl : Callable Try.prog fn) (hva : ∀ v, first ++ #[v] ++ cap = va v) (hcb : ∀ {w : World} (F_ : List Hp) (x_ : List UInt8), Has E w [R, F_] → Calls Try.prog fn (va (S x_)) w fun e w' => e = .returned (.bool (c x_)) ∧ Has E w' [R, F_]) :
    Calls Try.prog 218 #[v_l, (.func (.func fn) first cap)] w fun e w' => e = .returned (.bool (l.all c)) ∧ Has E w' [R] := by
  refine c_enter (args := [v_l, (.func (.func fn) first cap)]) Try.func218 rfl Try.ntmps218 (by simp) ?_
  refine wp_seq_k fun K1 hK1 => ?_
  refine c_region ?_
  refine s_op (o_box (cs := #[(.func (.func fn) first cap)]) rfl rfl hH fun b2 w3 hH4 => ?_)
  refine s_op (o_assign (v := (.bool false)) rfl ?_)
  refine s_nil ?_
  refine t_norm (hK1 _ _ ?_)
  refine wp_seq_k fun K5 hK5 => ?_
  refine c_region ?_
  refine s_op (o_move (v := v_l) rfl ?_)
  refine s_op (o_makeFunc (vs := #[(.pointer (some ⟨b2, 0, none⟩))]) (cap1 rfl) ?_)
  refine s_op (o_callf (vs := #[v_l, (.func (.func 227) #[] #[(.pointer (some ⟨b2, 0, none⟩))])]) ca226 rfl (args2 rfl rfl) (scontainsf_c (l := l) (c := notP c) (va := fun v_ => #[v_, (.pointer (some ⟨b2, 0, none⟩))]) hH4.all (h_l.mono (seg_sub 1 rfl)) ca227 (fun _ => by simp) (fun F_ x_ h_ => Calls.frameF (all1s_c (x := x_) (c := c) (va := va) h_.all ((CellsAt.one rfl).mono (fun _ g_ => sub_l ((seg_sub 0 rfl) g_))) hcl hva (cb_mid (α := List UInt8) (va := fun x_ => va (S x_)) (A := fun x_ e_ => e_ = .returned (.bool (c x_))) hcb)))) ?_)
  rintro _ w8 ⟨rfl, hX6⟩
  refine ⟨_, rfl, ?_⟩
  have hH7 := hX6.of_all
  refine s_op (o_not rfl ?_)
  refine s_op (o_assign (v := (.bool (!(l.any (notP c))))) rfl ?_)
  refine s_nil ?_
  refine t_norm (hK5 _ _ ?_)
  refine wp_ret ?_
  refine c_ret1 Try.results218  (v := (.bool (!(l.any (notP c))))) rfl ?_
  have q9 : (l.all c) = !(l.any (notP c)) := by exact (any_notP c l).symm
  have hH10 : Has E w8 [R] := (hH7.front 1 rfl).first 1 rfl
  exact ⟨by rw [q9], hH10⟩
set_option maxHeartbeats 4000000 in
theorem vindexf_c {E w : World} {R : List Hp} {v_l : Value} {l : List (Bool × Bs)} {fn : FuncId} {first cap : Array Value} {va : Value → Array Value} {c : (Bool × Bs) → Bool}  (hH : Has E w [R]) (h_l : Sl R 2 v_l l.length (l.flatMap vlC)) (hcl : Callable Try.prog fn) (hva : ∀ v, first ++ #[v] ++ cap = va v) (hcb : ∀ {w : World} (F_ : List Hp) (x_ : Bool × Bs), Has E w [R, F_] → Calls Try.prog fn (va (.agg #[(.bool x_.1), (S x_.2)])) w fun e w' => e = .returned (.bool (c x_)) ∧ Has E w' [R, F_]) :
    Calls Try.prog 232 #[v_l, (.func (.func fn) first cap)] w fun e w' => e = .returned (.int .i64 (idxG c l)) ∧ Has E w' [R] := by
  have hn_ := h_l.le
  refine c_enter (args := [v_l, (.func (.func fn) first cap)]) Try.func232 rfl Try.ntmps232 (by simp) ?_
  refine wp_seq_k fun K1 hK1 => ?_
  refine c_region ?_
  refine s_op (o_assign (v := (.int .i64 0)) rfl ?_)
  refine s_nil ?_
  refine t_norm (hK1 _ _ ?_)
  refine wp_seq_k fun K2 hK2 => ?_
  refine wp_seq_k fun K3 hK3 => ?_
  refine c_region ?_
  refine s_op (o_move (v := v_l) rfl ?_)
  refine s_op (o_lenS Try.underlying286 rfl h_l ?_)
  refine s_op (o_move (v := (.int .i64 0)) rfl ?_)
  refine s_nil ?_
  refine t_norm (hK3 _ _ ?_)
  refine wp_block ?_
  let I5 : Nat → (Nat → Value) → World → Prop := fun n__ r__ w__ => ∃ (k : Nat), n__ = l.length - k ∧ Has E w__ [R] ∧ (k ≤ l.length) ∧ (∀ j, j < k → ∀ y, l[j]? = some y → c y = false) ∧ r__ 0 = v_l ∧ r__ 1 = (.func (.func fn) first cap) ∧ r__ 7 = (.int .i64 ((l.length : Nat) : Int)) ∧ r__ 8 = (.int .i64 (k : Int))
  refine c_loop I5 _ ⟨0, rfl, hH, Nat.zero_le _, fun j hj => by omega, rfl, rfl, rfl, rfl⟩ ?_
  rintro n_ r8 w6 ⟨k, rfl, hH7, hk, hf, e4_0, e4_1, e4_7, e4_8⟩
  refine wp_seq_k fun K9 hK9 => ?_
  refine c_region ?_
  refine s_op (o_lss (a := (k : Int)) (b := ((l.length : Nat) : Int)) e4_8 e4_7 ?_)
  refine s_nil ?_
  refine t_norm (hK9 _ _ ?_)
  refine wp_seq_k fun K10 hK10 => ?_
  refine c_cond rfl (fun h11 => ?_) (fun h11 => ?_)
  · -- (k : Int) < ((l.length : Nat) : Int)
    refine wp_skip ?_
    refine t_norm (hK10 _ _ ?_)
    refine wp_seq_k fun K12 hK12 => ?_
    refine wp_block ?_
    refine wp_seq_k fun K13 hK13 => ?_
    refine c_region ?_
    refine s_op (o_move (v := (.int .i64 (k : Int))) e4_8 ?_)
    refine s_op (o_assign (v := (.int .i64 (k : Int))) rfl ?_)
    refine s_nil ?_
    refine t_norm (hK13 _ _ ?_)
    refine wp_seq_k fun K14 hK14 => ?_
    refine c_region ?_
    refine s_op (o_move (v := (.func (.func fn) first cap)) e4_1 ?_)
    refine s_op (o_move (v := v_l) e4_0 ?_)
    refine s_op (o_move (v := (.int .i64 (k : Int))) rfl ?_)
    obtain ⟨x18, hx19⟩ : ∃ x_, l[((k : Int)).toNat]? = some x_ := get_some (by omega)
    refine s_op (o_indexF vlC_len Try.underlying286 ti30 rfl h_l rfl rfl (by omega) hx19 fun b15 o16 hc17 => ?_)
    refine s_op (o_loadN (cs := [(.bool x18.1), (S x18.2)]) Try.underlying30 rfl ti30 rfl hH7 (seg_sub 0 rfl) hc17 ?_)
    refine s_op (o_callf (first := first) (captured := cap) (vs := va (.agg #[(.bool x18.1), (S x18.2)])) hcl rfl ((argsG1 rfl).trans (hva _)) (hcb _ x18 hH7.all1) ?_)
    rintro _ w22 ⟨rfl, hX20⟩
    refine ⟨_, rfl, ?_⟩
    have hH21 := hX20.of_all1
    refine s_nil ?_
    refine t_norm (hK14 _ _ ?_)
    refine c_condb rfl (fun h23 => ?_) (fun h23 => ?_)
    · -- c x18
      refine wp_seq_k fun K24 hK24 => ?_
      refine c_region ?_
      refine s_op (o_move (v := (.int .i64 (k : Int))) rfl ?_)
      refine s_op (o_assign (v := (.int .i64 (k : Int))) rfl ?_)
      refine s_nil ?_
      refine t_norm (hK24 _ _ ?_)
      refine wp_ret ?_
      refine b_ret (t_ret (t_ret (b_ret (t_ret (c_ret1 Try.results232  (v := (.int .i64 (k : Int))) rfl ?_)))))
      have q25 : idxG c l = (k : Int) := by exact idxG_some hf (show l[k]? = some _ from hx19) h23
      exact ⟨by rw [q25], hH21⟩
    · -- not: c x18
      refine wp_skip ?_
      refine b_norm ?_
      refine t_norm (hK12 _ _ ?_)
      refine c_region ?_
      refine s_op (o_add (a := (k : Int)) (b := 1) e4_8 rfl (w64 (by omega) (by omega)) ?_)
      refine s_op (o_move (v := (.int .i64 ((k : Int) + 1))) rfl ?_)
      refine s_nil ?_
      refine t_norm ⟨l.length - (k + 1), _, rfl, ?_, ?_⟩
      · omega
      · exact ⟨(k + 1), rfl, hH21, (by omega), ((fun j hj y hy => by rcases Nat.lt_or_ge j k with g | g; exact hf j g y hy; obtain rfl : j = k := (by omega); have e_ := hy.symm.trans (show l[j]? = some _ from hx19); cases e_; exact h23)), e4_0, e4_1, e4_7, rfl⟩
  · -- not: (k : Int) < ((l.length : Nat) : Int)
    refine wp_exit ?_
    refine t_exit (t_exit (x_in (?_)))
    refine t_norm (hK2 _ _ ?_)
    refine wp_seq_k fun K26 hK26 => ?_
    refine c_region ?_
    refine s_op (o_assign (v := (.int .i64 (-1))) rfl ?_)
    refine s_nil ?_
    refine t_norm (hK26 _ _ ?_)
    refine wp_ret ?_
    refine c_ret1 Try.results232  (v := (.int .i64 (-1))) rfl ?_
    have q27 : idxG c l = -1 := by exact idxG_none fun j x hx => hf j (by have := (List.getElem?_eq_some_iff.1 hx).1; omega) x hx
    exact ⟨by rw [q27], hH7⟩
set_option maxHeartbeats 4000000 in
theorem vcontainsf_c {E w : World} {R : List Hp} {v_l : Value} {l : List (Bool × Bs)} {fn : FuncId} {first cap : Array Value} {va : Value → Array Value} {c : (Bool × Bs) → Bool}  (hH : Has E w [R]) (h_l : Sl R 2 v_l l.length (l.flatMap vlC)) (hcl : Callable Try.prog fn) (hva : ∀ v, first ++ #[v] ++ cap = va v) (hcb : ∀ {w : World} (F_ : List Hp) (x_ : Bool × Bs), Has E w [R, F_] → Calls Try.prog fn (va (.agg #[(.bool x_.1), (S x_.2)])) w fun e w' => e = .returned (.bool (c x_)) ∧ Has E w' [R, F_]) :
    Calls Try.prog 228 #[v_l, (.func (.func fn) first cap)] w fun e w' => e = .returned (.bool (l.any c)) ∧ Has E w' [R] := by
  refine c_enter (args := [v_l, (.func (.func fn) first cap)]) Try.func228 rfl Try.ntmps228 (by simp) ?_
  refine wp_seq_k fun K1 hK1 => ?_
  refine c_region ?_
  refine s_op (o_assign (v := (.bool false)) rfl ?_)
  refine s_nil ?_
  refine t_norm (hK1 _ _ ?_)
  refine wp_seq_k fun K2 hK2 => ?_
  refine c_region ?_
  refine s_op (o_move (v := v_l) rfl ?_)
  refine s_op (o_move (v := (.func (.func fn) first cap)) rfl ?_)
  refine s_op (o_callf (vs := #[v_l, (.func (.func fn) first cap)]) ca232 rfl (args2 rfl rfl) (vindexf_c (l := l) (c := c) (va := va) hH.all (h_l.mono (seg_sub 0 rfl)) hcl hva (cb_more (α := Bool × Bs) (R := R) (va := fun x_ => va (.agg #[(.bool x_.1), (S x_.2)])) (A := fun x_ e_ => e_ = .returned (.bool (c x_))) hcb)) ?_)
  rintro _ w5 ⟨rfl, hX3⟩
  refine ⟨_, rfl, ?_⟩
  have hH4 := hX3.of_all
  refine s_op (o_geq (a := idxG c l) (b := 0) rfl rfl ?_)
  refine s_op (o_assign (v := (.bool (decide (0 ≤ idxG c l)))) rfl ?_)
  refine s_nil ?_
  refine t_norm (hK2 _ _ ?_)
  refine wp_ret ?_
  refine c_ret1 Try.results228  (v := (.bool (decide (0 ≤ idxG c l)))) rfl ?_
  have q6 : l.any c = decide (0 ≤ idxG c l) := by exact idxG_any.symm
  exact ⟨by rw [q6], hH4⟩
set_option maxHeartbeats 4000000 in
theorem all1v_c {E w : World} {R : List Hp} {x : Bool × Bs} {bx : Nat}  {fn : FuncId} {first cap : Array Value} {va : Value → Array Value} {c : (Bool × Bs) → Bool}  (hH : Has E w [R]) (h_bx : CellsAt R bx 0 [(.func (.func fn) first cap)]) (hcl : Callable Try.prog fn) (hva : ∀ v, first ++ #[v] ++ cap = va v) (hcb : ∀ {w : World} (F_ : List Hp) (x_ : Bool × Bs), Has E w [R, F_] → Calls Try.prog fn (va (.agg #[(.bool x_.1), (S x_.2)])) w fun e w' => e = .returned (.bool (c x_)) ∧ Has E w' [R, F_]) :
    Calls Try.prog 229 #[(.agg #[(.bool x.1), (S x.2)]), (.pointer (some ⟨bx, 0, none⟩))] w fun e w' => e = .returned (.bool (notP c x)) ∧ Has E w' [R] := by
  refine c_enter (args := [(.agg #[(.bool x.1), (S x.2)]), (.pointer (some ⟨bx, 0, none⟩))]) Try.func229 rfl Try.ntmps229 (by simp) ?_
  refine wp_seq_k fun K1 hK1 => ?_
  refine c_region ?_
  refine s_op (o_box (cs := #[(.bool x.1), (S x.2)]) rfl rfl hH fun b2 w3 hH4 => ?_)
  refine s_op (o_assign (v := (.bool false)) rfl ?_)
  refine s_nil ?_
  refine t_norm (hK1 _ _ ?_)
  refine wp_seq_k fun K5 hK5 => ?_
  refine c_region ?_
  refine s_op (o_load1 (v := (.func (.func fn) first cap)) Try.underlying287 rfl rfl hH4 (seg_sub 1 rfl) h_bx ?_)
  refine s_op (o_loadN (cs := [(.bool x.1), (S x.2)]) Try.underlying30 rfl ti30 rfl hH4 (seg_sub 0 rfl) (CellsAt.one rfl) ?_)
  refine s_op (o_callf (first := first) (captured := cap) (vs := va (.agg #[(.bool x.1), (S x.2)])) hcl rfl ((argsG1 rfl).trans (hva _)) (hcb _ (x.1, x.2) (hH4.front 1 rfl).all1) ?_)
  rintro _ w8 ⟨rfl, hX6⟩
  refine ⟨_, rfl, ?_⟩
  have hH7 := hX6.of_all1
  refine s_op (o_not rfl ?_)
  refine s_op (o_assign (v := (.bool (!(c (x.1, x.2))))) rfl ?_)
  refine s_nil ?_
  refine t_norm (hK5 _ _ ?_)
  refine wp_ret ?_
  refine c_ret1 Try.results229  (v := (.bool (!(c (x.1, x.2))))) rfl ?_
  have q9 : (notP c x) = !(c (x.1, x.2)) := by rfl
  have hH10 : Has E w8 [R] := hH7.first 1 rfl
  exact ⟨by rw [q9], hH10⟩
set_option maxHeartbeats 4000000 in
theorem allv_c {E w : World} {R : List Hp} {v_l : Value} {l : List (Bool × Bs)} {fn : FuncId} {first cap : Array Value} {va : Value → Array Value} {c : (Bool × Bs) → Bool}  (hH : Has E w [R]) (h_l : Sl R 2 v_l l.length (l.flatMap vlC)) (hcl : Callable Try.prog fn) (hva : ∀ v, first ++ #[v] ++ cap = va v) (hcb : ∀ {w : World} (F_ : List Hp) (x_ : Bool × Bs), Has E w [R, F_] → Calls Try.prog fn (va (.agg #[(.bool x_.1), (S x_.2)])) w fun e w' => e = .returned (.bool (c x_)) ∧ Has E w' [R, F_]) :
    Calls Try.prog 220 #[v_l, (.func (.func fn) first cap)] w fun e w' => e = .returned (.bool (l.all c)) ∧ Has E w' [R] := by
  refine c_enter (args := [v_l, (.func (.func fn) first cap)]) Try.func220 rfl Try.ntmps220 (by simp) ?_
  refine wp_seq_k fun K1 hK1 => ?_
  refine c_region ?_
  refine s_op (o_box (cs := #[(.func (.func fn) first cap)]) rfl rfl hH fun b2 w3 hH4 => ?_)
  refine s_op (o_assign (v := (.bool false)) rfl ?_)
  refine s_nil ?_
  refine t_norm (hK1 _ _ ?_)
  refine wp_seq_k fun K5 hK5 => ?_
  refine c_region ?_
  refine s_op (o_move (v := v_l) rfl ?_)
  refine s_op (o_makeFunc (vs := #[(.pointer (some ⟨b2, 0, none⟩))]) (cap1 rfl) ?_)
  refine s_op (o_callf (vs := #[v_l, (.func (.func 229) #[] #[(.pointer (some ⟨b2, 0, none⟩))])]) ca228 rfl (args2 rfl rfl) (vcontainsf_c (l := l) (c := notP c) (va := fun v_ => #[v_, (.pointer (some ⟨b2, 0, none⟩))]) hH4.all (h_l.mono (seg_sub 1 rfl)) ca229 (fun _ => by simp) (fun F_ x_ h_ => Calls.frameF (all1v_c (x := x_) (c := c) (va := va) h_.all ((CellsAt.one rfl).mono (fun _ g_ => sub_l ((seg_sub 0 rfl) g_))) hcl hva (cb_mid (α := Bool × Bs) (va := fun x_ => va (.agg #[(.bool x_.1), (S x_.2)])) (A := fun x_ e_ => e_ = .returned (.bool (c x_))) hcb)))) ?_)
  rintro _ w8 ⟨rfl, hX6⟩
  refine ⟨_, rfl, ?_⟩
  have hH7 := hX6.of_all
  refine s_op (o_not rfl ?_)
  refine s_op (o_assign (v := (.bool (!(l.any (notP c))))) rfl ?_)
  refine s_nil ?_
  refine t_norm (hK5 _ _ ?_)
  refine wp_ret ?_
  refine c_ret1 Try.results220  (v := (.bool (!(l.any (notP c))))) rfl ?_
  have q9 : (l.all c) = !(l.any (notP c)) := by exact (any_notP c l).symm
  have hH10 : Has E w8 [R] := (hH7.front 1 rfl).first 1 rfl
  exact ⟨by rw [q9], hH10⟩
end Go.Q
namespace Go.Q
theorem S_beq' (a b : List UInt8) : ((⟨a.toArray⟩ : ByteArray).toList == (⟨b.toArray⟩ : ByteArray).toList) = decide (a = b) := by
  rw [bytes_toList, bytes_toList]
  by_cases h : a = b
  · subst h; simp
  · rw [decide_eq_false h]; simpa using h
theorem int_beq' (a b : Int) : (a == b) = decide (a = b) := by
  by_cases h : a = b
  · subst h; simp
  · rw [decide_eq_false h]; simpa using h
theorem bool_beq' (a b : Bool) : (a == b) = decide (a = b) := by cases a <;> cases b <;> rfl
theorem part1 {P : Program} {t : TypeId} {d : TypeDesc} (ht : P.underlying t = some d) (hd : aggB d = false) {xs : Array Value} {o : Nat} {v : Value} (hv : xs[o]? = some v) (w : World) : (part t xs o).run P w = .ok v w := by
  unfold part
  rw [Sem.run_bind, run_isAgg ht, hd]
  simp [hv]
theorem partN {P : Program} {t : TypeId} {d : TypeDesc} {z : Value} {sz by_ : Nat} (ht : P.underlying t = some d) (hd : aggB d = true) (hi : TI P t z sz by_) {xs ys : Array Value} {o : Nat} (hv : xs.extract o (o + sz) = ys) (w : World) : (part t xs o).run P w = .ok (.agg ys) w := by
  unfold part
  rw [Sem.run_bind, run_isAgg ht, hd]
  simp only [Result.andThen_ok, if_true, Sem.run_bind, hi.size, Sem.run_pure, hv]
theorem eqC_nil {P : Program} {d : Nat} {xs ys : Array Value} {w : World} : (Op.eqFields d xs ys []).run P w = .ok true w := rfl
theorem eqC_cons {P : Program} {d : Nat} {xs ys : Array Value} {f : Field} {fs : List Field} {a b : Value} {r r' : Bool} {w : World} {ft fo : Nat} (h : (f.type, f.offset, f.name == "_") = (ft, fo, false)) (ha : (part ft xs fo).run P w = .ok a w) (hb : (part ft ys fo).run P w = .ok b w)
    (he : (Op.equalIn d ft a b).run P w = .ok r w) (hk : (Op.eqFields d xs ys fs).run P w = .ok r' w) : (Op.eqFields d xs ys (f :: fs)).run P w = .ok (r && r') w := by
  simp only [Prod.mk.injEq] at h
  obtain ⟨rfl, rfl, hn⟩ := h
  have hn' : f.name ≠ "_" := by simpa using hn
  rw [Op.eqFields, if_pos hn']
  simp only [Sem.run_bind, ha, hb, he, Result.andThen_ok]
  cases r
  · simp
  · simpa using hk
theorem eqC_fields {P : Program} {d : Nat} {xs ys : Array Value} {r : Bool} {w : World} {l : List Field} {m : List (Nat × Nat × Bool)} (hf : l.map (fun f => (f.type, f.offset, f.name == "_")) = m) (h : ∀ l : List Field, l.map (fun f => (f.type, f.offset, f.name == "_")) = m → (Op.eqFields d xs ys l).run P w = .ok r w) :
    (Op.eqFields d xs ys l).run P w = .ok r w := h l hf
theorem eq_int {P : Program} {t : TypeId} {k' : IntKind} (h : P.underlying t = some (.int k')) (d : Nat) (k : IntKind) (a b : Int) (w : World) : (Op.equalIn (d + 1) t (.int k a) (.int k b)).run P w = .ok (decide (a = b)) w := by rw [run_equalIn_int w d t _ _ _ _ h, int_beq']
theorem eq_bool {P : Program} {t : TypeId} (h : P.underlying t = some .bool) (d : Nat) (a b : Bool) (w : World) : (Op.equalIn (d + 1) t (.bool a) (.bool b)).run P w = .ok (decide (a = b)) w := by rw [run_equalIn_bool' w d t _ _ h, bool_beq']
theorem eq_str {P : Program} {t : TypeId} (h : P.underlying t = some .string) (d : Nat) (a b : List UInt8) (w : World) : (Op.equalIn (d + 1) t (S a) (S b)).run P w = .ok (decide (a = b)) w := by
  unfold S; rw [run_equalIn_string w d t _ _ h, S_beq']
end Go.Q
namespace Go.Q
open Go.Proofs
set_option linter.unusedVariables false
set_option maxRecDepth 100000
attribute [local irreducible] wpList OK Code.wp
def eqv30 (a0 : Bool) (a1 : List UInt8) (b0 : Bool) (b1 : List UInt8) : Bool := (decide (a0 = b0) && (decide (a1 = b1) && true))
theorem eqT30 (d : Nat) (w : World) (a0 : Bool) (a1 : List UInt8) (b0 : Bool) (b1 : List UInt8) : (Op.equalIn (d + 2) 30 (.agg #[(.bool a0), (S a1)]) (.agg #[(.bool b0), (S b1)])).run Try.prog w = .ok (eqv30 a0 a1 b0 b1) w := by
  rw [run_equalIn_struct w _ 30 _ _ (by kernel_rfl) (by kernel_rfl)]
  refine eqC_fields (m := [(4, 0, false), (9, 1, false)]) (by kernel_rfl) fun l hl => ?_
  obtain ⟨f0, l0, rfl, h0, hl⟩ := List.map_eq_cons_iff.1 hl
  refine eqC_cons (ft := 4) (fo := 0) (a := (.bool a0)) (b := (.bool b0)) h0 (part1 Try.underlying4 rfl (by kernel_rfl) w) (part1 Try.underlying4 rfl (by kernel_rfl) w) (eq_bool Try.underlying4 (d + 0) _ _ w) ?_
  obtain ⟨f1, l1, rfl, h1, hl⟩ := List.map_eq_cons_iff.1 hl
  refine eqC_cons (ft := 9) (fo := 1) (a := (S a1)) (b := (S b1)) h1 (part1 Try.underlying9 rfl (by kernel_rfl) w) (part1 Try.underlying9 rfl (by kernel_rfl) w) (eq_str Try.underlying9 (d + 0) _ _ w) ?_
  obtain rfl := List.map_eq_nil_iff.1 hl
  exact eqC_nil
theorem o_eql30 {ρ : Operand → Value} {w : World} {K : Value → World → Prop} {dst : Option Tmp} {T : TypeId} {pos : String} {after : Array Edge} {g : Option (Nat × Bool)} {u : TypeId} {x y : Operand} (a0 : Bool) (a1 : List UInt8) (b0 : Bool) (b1 : List UInt8) (hx : ρ x = .agg #[(.bool a0), (S a1)]) (hy : ρ y = .agg #[(.bool b0), (S b1)]) (h : K (.bool ((eqv30 a0 a1 b0 b1))) w) :
    OK Try.prog ⟨dst, .binOp .eql 30 x y u, T, pos, after, g⟩ ρ w K :=
  o_eqx hx hy (run_eqGuard_agg w _ _ _ _ _ _ (by kernel_rfl)) rfl (eqT30 (9998) w a0 a1 b0 b1) h
theorem o_neq30 {ρ : Operand → Value} {w : World} {K : Value → World → Prop} {dst : Option Tmp} {T : TypeId} {pos : String} {after : Array Edge} {g : Option (Nat × Bool)} {u : TypeId} {x y : Operand} (a0 : Bool) (a1 : List UInt8) (b0 : Bool) (b1 : List UInt8) (hx : ρ x = .agg #[(.bool a0), (S a1)]) (hy : ρ y = .agg #[(.bool b0), (S b1)]) (h : K (.bool (!(eqv30 a0 a1 b0 b1))) w) :
    OK Try.prog ⟨dst, .binOp .neq 30 x y u, T, pos, after, g⟩ ρ w K :=
  o_nex hx hy (run_eqGuard_agg w _ _ _ _ _ _ (by kernel_rfl)) rfl (eqT30 (9998) w a0 a1 b0 b1) h
theorem eqv30_iff (a0 : Bool) (a1 : List UInt8) (b0 : Bool) (b1 : List UInt8) : eqv30 a0 a1 b0 b1 = true ↔ a0 = b0 ∧ a1 = b1 := by
  unfold eqv30; simp
theorem eqv30_dec (a0 : Bool) (a1 : List UInt8) (b0 : Bool) (b1 : List UInt8) : eqv30 a0 a1 b0 b1 = decide (a0 = b0 ∧ a1 = b1) := by rw [Bool.eq_iff_iff, eqv30_iff, decide_eq_true_iff]
def eqv32 (a0 : Int) (a1 : Int) (a2 : Int) (a3 : Int) (a4 : Int) (a5 : List UInt8) (a6 : Bool) (a7 : List UInt8) (a8 : Bool) (a9 : List UInt8) (a10 : Int) (b0 : Int) (b1 : Int) (b2 : Int) (b3 : Int) (b4 : Int) (b5 : List UInt8) (b6 : Bool) (b7 : List UInt8) (b8 : Bool) (b9 : List UInt8) (b10 : Int) : Bool := (decide (a0 = b0) && (decide (a1 = b1) && (decide (a2 = b2) && (decide (a3 = b3) && (decide (a4 = b4) && (decide (a5 = b5) && (eqv30 a6 a7 b6 b7 && (eqv30 a8 a9 b8 b9 && (decide (a10 = b10) && true)))))))))
theorem eqT32 (d : Nat) (w : World) (a0 : Int) (a1 : Int) (a2 : Int) (a3 : Int) (a4 : Int) (a5 : List UInt8) (a6 : Bool) (a7 : List UInt8) (a8 : Bool) (a9 : List UInt8) (a10 : Int) (b0 : Int) (b1 : Int) (b2 : Int) (b3 : Int) (b4 : Int) (b5 : List UInt8) (b6 : Bool) (b7 : List UInt8) (b8 : Bool) (b9 : List UInt8) (b10 : Int) : (Op.equalIn (d + 3) 32 (.agg #[(.int .i64 a0), (.int .i64 a1), (.int .i64 a2), (.int .i64 a3), (.int .i64 a4), (S a5), (.bool a6), (S a7), (.bool a8), (S a9), (.int .i64 a10)]) (.agg #[(.int .i64 b0), (.int .i64 b1), (.int .i64 b2), (.int .i64 b3), (.int .i64 b4), (S b5), (.bool b6), (S b7), (.bool b8), (S b9), (.int .i64 b10)])).run Try.prog w = .ok (eqv32 a0 a1 a2 a3 a4 a5 a6 a7 a8 a9 a10 b0 b1 b2 b3 b4 b5 b6 b7 b8 b9 b10) w := by
  rw [run_equalIn_struct w _ 32 _ _ (by kernel_rfl) (by kernel_rfl)]
  refine eqC_fields (m := [(3, 0, false), (3, 1, false), (3, 2, false), (3, 3, false), (3, 4, false), (9, 5, false), (30, 6, false), (30, 8, false), (3, 10, false)]) (by kernel_rfl) fun l hl => ?_
  obtain ⟨f0, l0, rfl, h0, hl⟩ := List.map_eq_cons_iff.1 hl
  refine eqC_cons (ft := 3) (fo := 0) (a := (.int .i64 a0)) (b := (.int .i64 b0)) h0 (part1 Try.underlying3 rfl (by kernel_rfl) w) (part1 Try.underlying3 rfl (by kernel_rfl) w) (eq_int Try.underlying3 (d + 1) _ _ _ w) ?_
  obtain ⟨f1, l1, rfl, h1, hl⟩ := List.map_eq_cons_iff.1 hl
  refine eqC_cons (ft := 3) (fo := 1) (a := (.int .i64 a1)) (b := (.int .i64 b1)) h1 (part1 Try.underlying3 rfl (by kernel_rfl) w) (part1 Try.underlying3 rfl (by kernel_rfl) w) (eq_int Try.underlying3 (d + 1) _ _ _ w) ?_
  obtain ⟨f2, l2, rfl, h2, hl⟩ := List.map_eq_cons_iff.1 hl
  refine eqC_cons (ft := 3) (fo := 2) (a := (.int .i64 a2)) (b := (.int .i64 b2)) h2 (part1 Try.underlying3 rfl (by kernel_rfl) w) (part1 Try.underlying3 rfl (by kernel_rfl) w) (eq_int Try.underlying3 (d + 1) _ _ _ w) ?_
  obtain ⟨f3, l3, rfl, h3, hl⟩ := List.map_eq_cons_iff.1 hl
  refine eqC_cons (ft := 3) (fo := 3) (a := (.int .i64 a3)) (b := (.int .i64 b3)) h3 (part1 Try.underlying3 rfl (by kernel_rfl) w) (part1 Try.underlying3 rfl (by kernel_rfl) w) (eq_int Try.underlying3 (d + 1) _ _ _ w) ?_
  obtain ⟨f4, l4, rfl, h4, hl⟩ := List.map_eq_cons_iff.1 hl
  refine eqC_cons (ft := 3) (fo := 4) (a := (.int .i64 a4)) (b := (.int .i64 b4)) h4 (part1 Try.underlying3 rfl (by kernel_rfl) w) (part1 Try.underlying3 rfl (by kernel_rfl) w) (eq_int Try.underlying3 (d + 1) _ _ _ w) ?_
  obtain ⟨f5, l5, rfl, h5, hl⟩ := List.map_eq_cons_iff.1 hl
  refine eqC_cons (ft := 9) (fo := 5) (a := (S a5)) (b := (S b5)) h5 (part1 Try.underlying9 rfl (by kernel_rfl) w) (part1 Try.underlying9 rfl (by kernel_rfl) w) (eq_str Try.underlying9 (d + 1) _ _ w) ?_
  obtain ⟨f6, l6, rfl, h6, hl⟩ := List.map_eq_cons_iff.1 hl
  refine eqC_cons (ft := 30) (fo := 6) h6 (partN (ys := #[(.bool a6), (S a7)]) Try.underlying30 rfl ti30 (by kernel_rfl) w) (partN (ys := #[(.bool b6), (S b7)]) Try.underlying30 rfl ti30 (by kernel_rfl) w) (eqT30 (d + 0) w a6 a7 b6 b7) ?_
  obtain ⟨f7, l7, rfl, h7, hl⟩ := List.map_eq_cons_iff.1 hl
  refine eqC_cons (ft := 30) (fo := 8) h7 (partN (ys := #[(.bool a8), (S a9)]) Try.underlying30 rfl ti30 (by kernel_rfl) w) (partN (ys := #[(.bool b8), (S b9)]) Try.underlying30 rfl ti30 (by kernel_rfl) w) (eqT30 (d + 0) w a8 a9 b8 b9) ?_
  obtain ⟨f8, l8, rfl, h8, hl⟩ := List.map_eq_cons_iff.1 hl
  refine eqC_cons (ft := 3) (fo := 10) (a := (.int .i64 a10)) (b := (.int .i64 b10)) h8 (part1 Try.underlying3 rfl (by kernel_rfl) w) (part1 Try.underlying3 rfl (by kernel_rfl) w) (eq_int Try.underlying3 (d + 1) _ _ _ w) ?_
  obtain rfl := List.map_eq_nil_iff.1 hl
  exact eqC_nil
theorem o_eql32 {ρ : Operand → Value} {w : World} {K : Value → World → Prop} {dst : Option Tmp} {T : TypeId} {pos : String} {after : Array Edge} {g : Option (Nat × Bool)} {u : TypeId} {x y : Operand} (a0 : Int) (a1 : Int) (a2 : Int) (a3 : Int) (a4 : Int) (a5 : List UInt8) (a6 : Bool) (a7 : List UInt8) (a8 : Bool) (a9 : List UInt8) (a10 : Int) (b0 : Int) (b1 : Int) (b2 : Int) (b3 : Int) (b4 : Int) (b5 : List UInt8) (b6 : Bool) (b7 : List UInt8) (b8 : Bool) (b9 : List UInt8) (b10 : Int) (hx : ρ x = .agg #[(.int .i64 a0), (.int .i64 a1), (.int .i64 a2), (.int .i64 a3), (.int .i64 a4), (S a5), (.bool a6), (S a7), (.bool a8), (S a9), (.int .i64 a10)]) (hy : ρ y = .agg #[(.int .i64 b0), (.int .i64 b1), (.int .i64 b2), (.int .i64 b3), (.int .i64 b4), (S b5), (.bool b6), (S b7), (.bool b8), (S b9), (.int .i64 b10)]) (h : K (.bool ((eqv32 a0 a1 a2 a3 a4 a5 a6 a7 a8 a9 a10 b0 b1 b2 b3 b4 b5 b6 b7 b8 b9 b10))) w) :
    OK Try.prog ⟨dst, .binOp .eql 32 x y u, T, pos, after, g⟩ ρ w K :=
  o_eqx hx hy (run_eqGuard_agg w _ _ _ _ _ _ (by kernel_rfl)) rfl (eqT32 (9997) w a0 a1 a2 a3 a4 a5 a6 a7 a8 a9 a10 b0 b1 b2 b3 b4 b5 b6 b7 b8 b9 b10) h
theorem o_neq32 {ρ : Operand → Value} {w : World} {K : Value → World → Prop} {dst : Option Tmp} {T : TypeId} {pos : String} {after : Array Edge} {g : Option (Nat × Bool)} {u : TypeId} {x y : Operand} (a0 : Int) (a1 : Int) (a2 : Int) (a3 : Int) (a4 : Int) (a5 : List UInt8) (a6 : Bool) (a7 : List UInt8) (a8 : Bool) (a9 : List UInt8) (a10 : Int) (b0 : Int) (b1 : Int) (b2 : Int) (b3 : Int) (b4 : Int) (b5 : List UInt8) (b6 : Bool) (b7 : List UInt8) (b8 : Bool) (b9 : List UInt8) (b10 : Int) (hx : ρ x = .agg #[(.int .i64 a0), (.int .i64 a1), (.int .i64 a2), (.int .i64 a3), (.int .i64 a4), (S a5), (.bool a6), (S a7), (.bool a8), (S a9), (.int .i64 a10)]) (hy : ρ y = .agg #[(.int .i64 b0), (.int .i64 b1), (.int .i64 b2), (.int .i64 b3), (.int .i64 b4), (S b5), (.bool b6), (S b7), (.bool b8), (S b9), (.int .i64 b10)]) (h : K (.bool (!(eqv32 a0 a1 a2 a3 a4 a5 a6 a7 a8 a9 a10 b0 b1 b2 b3 b4 b5 b6 b7 b8 b9 b10))) w) :
    OK Try.prog ⟨dst, .binOp .neq 32 x y u, T, pos, after, g⟩ ρ w K :=
  o_nex hx hy (run_eqGuard_agg w _ _ _ _ _ _ (by kernel_rfl)) rfl (eqT32 (9997) w a0 a1 a2 a3 a4 a5 a6 a7 a8 a9 a10 b0 b1 b2 b3 b4 b5 b6 b7 b8 b9 b10) h
theorem eqv32_iff (a0 : Int) (a1 : Int) (a2 : Int) (a3 : Int) (a4 : Int) (a5 : List UInt8) (a6 : Bool) (a7 : List UInt8) (a8 : Bool) (a9 : List UInt8) (a10 : Int) (b0 : Int) (b1 : Int) (b2 : Int) (b3 : Int) (b4 : Int) (b5 : List UInt8) (b6 : Bool) (b7 : List UInt8) (b8 : Bool) (b9 : List UInt8) (b10 : Int) : eqv32 a0 a1 a2 a3 a4 a5 a6 a7 a8 a9 a10 b0 b1 b2 b3 b4 b5 b6 b7 b8 b9 b10 = true ↔ a0 = b0 ∧ a1 = b1 ∧ a2 = b2 ∧ a3 = b3 ∧ a4 = b4 ∧ a5 = b5 ∧ a6 = b6 ∧ a7 = b7 ∧ a8 = b8 ∧ a9 = b9 ∧ a10 = b10 := by
  unfold eqv32; simp [eqv30_iff, and_assoc]
theorem eqv32_dec (a0 : Int) (a1 : Int) (a2 : Int) (a3 : Int) (a4 : Int) (a5 : List UInt8) (a6 : Bool) (a7 : List UInt8) (a8 : Bool) (a9 : List UInt8) (a10 : Int) (b0 : Int) (b1 : Int) (b2 : Int) (b3 : Int) (b4 : Int) (b5 : List UInt8) (b6 : Bool) (b7 : List UInt8) (b8 : Bool) (b9 : List UInt8) (b10 : Int) : eqv32 a0 a1 a2 a3 a4 a5 a6 a7 a8 a9 a10 b0 b1 b2 b3 b4 b5 b6 b7 b8 b9 b10 = decide (a0 = b0 ∧ a1 = b1 ∧ a2 = b2 ∧ a3 = b3 ∧ a4 = b4 ∧ a5 = b5 ∧ a6 = b6 ∧ a7 = b7 ∧ a8 = b8 ∧ a9 = b9 ∧ a10 = b10) := by rw [Bool.eq_iff_iff, eqv32_iff, decide_eq_true_iff]
end Go.Q
